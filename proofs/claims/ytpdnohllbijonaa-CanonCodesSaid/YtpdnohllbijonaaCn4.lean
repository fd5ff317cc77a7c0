/-
  The document's Codes, by frames. No condition.
-/
import Derived.Test.YtpdnohllbijonaaCn3
namespace Go.Proofs.Ytpdnohllbijonaa
open Go.RowKit
set_option linter.unusedVariables false
variable {B : Nat} {w0 : World} {F : List Ch} {A : Option Addr} {c : Nat}
theorem rcodes_bad (l : List UInt8) (hb : Bor B w0 F 1 (.slice A l.length c) l.length (bv l)) (hg : ¬ Good l) : Does Try.prog B w0 14 [.slice A l.length c] F (fun r L => r = .tuple #[.slice none 0 0, .int .i64 7] ∧ L = F) := by
  have hc := rcheck_d l hb
  rw [chk_bad hg] at hc
  refine fn_walk Try.func14 59 rfl rfl rfl [(0, .slice A l.length c)] ⟨⟨rfl, rfl⟩, trivial⟩ ?_
  refine vc_seq ?_
  refine vc_region ?_
  refine vl_det (det_assign rfl) rfl ?_
  refine vl_det (det_assign rfl) rfl ?_
  refine vl_end [(0, _)] ⟨rfl, trivial⟩ ?_
  refine then_next ?_
  refine vc_seq ?_
  refine vc_seq ?_
  refine vc_region ?_
  refine vl_det (det_move rfl) rfl ?_
  refine vl_call co12 rfl (hc) rfl ?_
  rintro _ _ ⟨rfl, hLL⟩
  obtain rfl := hLL.symm
  refine vl_det (det_neq rfl rfl) rfl ?_
  refine vl_end [(0, _), (14, _)] ⟨rfl, rfl, trivial⟩ ?_
  refine then_next ?_
  refine vc_decideU rfl (fun h14 => ?_) (fun h14 => ?_)
  · skip
    refine vc_seq ?_
    refine vc_region ?_
    refine vl_det (det_assign rfl) rfl ?_
    refine vl_det (det_assign rfl) rfl ?_
    refine vl_end [(2, _), (3, _)] ⟨rfl, rfl, trivial⟩ ?_
    refine then_next ?_
    refine vc_ret ?_
    refine then_ret ?_
    refine ret2 rfl rfl rfl ?_
    exact ⟨rfl, rfl⟩
  · skip
    exfalso; omega
theorem ints_set (k : IntKind) (l : List Int) (i : Nat) (x : Int) : (ints k l).set (i * 1) (.int k x) = ints k (l.set i x) := by
  rw [Nat.mul_one]; simp [ints, List.map_set]
set_option maxHeartbeats 400000 in
theorem rcodes_d (l : List UInt8) (hb : Bor B w0 F 1 (.slice A l.length c) l.length (bv l)) (hg : Good l) : Does Try.prog B w0 14 [.slice A l.length c] F (fun r L => ∃ A' c', r = .tuple #[.slice A' l.length c', .int .i64 0] ∧ L = .own 30 1 A' l.length c' (ints .u16 (codesL l)) :: F) := by
  have hc := rcheck_d l hb
  rw [chk_good hg] at hc
  have hf := hg.1
  have hfl := hf.1
  refine fn_walk Try.func14 59 rfl rfl rfl [(0, .slice A l.length c)] ⟨⟨rfl, rfl⟩, trivial⟩ ?_
  refine vc_seq ?_
  refine vc_region ?_
  refine vl_det (det_assign rfl) rfl ?_
  refine vl_det (det_assign rfl) rfl ?_
  refine vl_end [(0, _)] ⟨rfl, trivial⟩ ?_
  refine then_next ?_
  refine vc_seq ?_
  refine vc_seq ?_
  refine vc_region ?_
  refine vl_det (det_move rfl) rfl ?_
  refine vl_call co12 rfl (hc) rfl ?_
  rintro _ _ ⟨rfl, hLL⟩
  obtain rfl := hLL.symm
  refine vl_det (det_neq rfl rfl) rfl ?_
  refine vl_end [(0, _), (14, _)] ⟨rfl, rfl, trivial⟩ ?_
  refine then_next ?_
  refine vc_decideU rfl (fun h14 => ?_) (fun h14 => ?_)
  · skip
    exfalso; omega
  · skip
    refine vc_skip ?_
    refine then_next ?_
    refine vc_seq ?_
    refine vc_region ?_
    refine vl_det (det_assign rfl) rfl ?_
    refine vl_end [(0, _), (4, _)] ⟨rfl, rfl, trivial⟩ ?_
    refine then_next ?_
    refine vc_seq ?_
    refine vc_seq ?_
    refine vc_region ?_
    refine vl_det (det_assign rfl) rfl ?_
    refine vl_end [(0, _), (4, _), (5, _)] ⟨rfl, rfl, rfl, trivial⟩ ?_
    refine then_next ?_
    refine vc_block ?_
    refine vc_nil_row 30 1 none ?_
    refine vc_loopJ (fun zf zL zm => ∃ (k : Nat) (A4 : Option Addr) (c4 : Nat), (k ≤ l.length) ∧ l.length - k = zm ∧ Sub zf [(0, .slice A l.length c), (4, .slice A4 k c4), (5, .int .i64 k)] ∧ Wk zL (.own 30 1 A4 k c4 (ints .u16 (List.replicate k 0)) :: F)) _ ⟨0, none, 0, Nat.zero_le _, rfl, ⟨(by first | rfl | exact int_to (by omega)), (by first | rfl | exact int_to (by omega)), (by first | rfl | exact int_to (by omega)), trivial⟩, .refl _⟩ ?_
    rintro _ _ _ ⟨k, A4, c4, hk, rfl, hs, hp⟩
    refine vc_weaken _ hs (vc_wk hp ?_)
    clear hs hp
    refine vc_seq ?_
    refine vc_seq ?_
    refine vc_region ?_
    refine vl_det (det_move rfl) rfl ?_
    refine vl_det (det_move rfl) rfl ?_
    refine vl_det (det_len_sl Try.underlying22 rfl) rfl ?_
    refine vl_det (det_lss rfl rfl) rfl ?_
    refine vl_end [(0, _), (4, _), (5, _), (18, _)] ⟨rfl, rfl, rfl, rfl, trivial⟩ ?_
    refine then_next ?_
    refine vc_decideU rfl (fun h18 => ?_) (fun h18 => ?_)
    · skip
      refine vc_skip ?_
      refine then_next ?_
      refine vc_seq ?_
      refine vc_block ?_
      refine vc_region ?_
      refine vl_det (det_move rfl) rfl ?_
      refine vl_push slT27 rfl rfl rfl rfl rfl (fun _ => rfl) (by repeat (first | exact .hd | apply Sel.tl)) (by omega) (by omega) ?_
      intro _ A23 c23
      refine vl_det (det_assign rfl) rfl ?_
      refine vl_end [(0, _), (4, _), (5, _)] ⟨rfl, rfl, rfl, trivial⟩ ?_
      refine in_normal ?_
      refine then_next ?_
      refine vc_region ?_
      refine vl_det (det_move rfl) rfl ?_
      refine vl_det (det_add rfl rfl (w_i64 (by omega) (by omega))) rfl ?_
      refine vl_det (det_assign rfl) rfl ?_
      refine vl_end [(0, _), (4, _), (5, _)] ⟨rfl, rfl, rfl, trivial⟩ ?_
      refine in_loop_ ⟨_, by omega, k + 1, A23, c23, by omega, rfl, ⟨(by first | rfl | exact int_to (by omega)), (by first | rfl | exact int_to (by omega)), (by first | rfl | exact int_to (by omega)), trivial⟩, wk_own rfl (by rw [List.replicate_succ']; simp [ints]) (.refl _)⟩
    · skip
      refine vc_exit ?_
      refine then_exit ?_
      refine loop_exit ?_
      refine in_eq ?_
      refine then_next ?_
      refine vc_seq ?_
      refine vc_region ?_
      refine vl_det (det_assign rfl) rfl ?_
      refine vl_det (det_assign rfl) rfl ?_
      refine vl_det (det_assign rfl) rfl ?_
      refine vl_end [(0, _), (4, _), (6, _), (7, _), (8, _)] ⟨rfl, rfl, rfl, rfl, rfl, trivial⟩ ?_
      refine then_next ?_
      refine vc_seq ?_
      refine vc_seq ?_
      refine vc_region ?_
      refine vl_det (det_assign rfl) rfl ?_
      refine vl_end [(0, _), (4, _), (6, _), (7, _), (8, _), (9, _)] ⟨rfl, rfl, rfl, rfl, rfl, rfl, trivial⟩ ?_
      refine then_next ?_
      refine vc_block ?_
      have hkl : k = l.length := by omega
      subst hkl
      refine vc_loopJ (fun zf zL zm => ∃ (L next was : Nat) (any : Bool), ((1 ≤ L ∧ L ≤ 16) ∧ RC l L 0 next was any) ∧ 16 - L = zm ∧ Sub zf [(0, .slice A l.length c), (4, .slice A4 l.length c4), (6, .int .i64 (next : Int)), (7, .int .i64 (was : Int)), (8, .bool any), (9, .int .i64 L)] ∧ Wk zL (.own 30 1 A4 l.length c4 (ints .u16 (outR l L 0)) :: F)) _ ⟨1, 0, 0, false, ⟨⟨by omega, by omega⟩, RC.start l⟩, rfl, ⟨(by first | rfl | exact int_to (by omega)), (by first | rfl | exact int_to (by omega)), (by first | rfl | exact int_to (by omega)), (by first | rfl | exact int_to (by omega)), (by first | rfl | exact int_to (by omega)), (by first | rfl | exact int_to (by omega)), trivial⟩, wk_own rfl (by rw [outR_zero]) (.refl _)⟩ ?_
      rintro _ _ _ ⟨L, next, was, any, ⟨⟨hL1, hL⟩, hR⟩, rfl, hs, hp⟩
      refine vc_weaken _ hs (vc_wk hp ?_)
      clear hs hp
      refine vc_seq ?_
      refine vc_seq ?_
      refine vc_region ?_
      refine vl_det (det_move rfl) rfl ?_
      refine vl_det (det_leq rfl rfl) rfl ?_
      refine vl_end [(0, _), (4, _), (6, _), (7, _), (8, _), (9, _), (25, _)] ⟨rfl, rfl, rfl, rfl, rfl, rfl, rfl, trivial⟩ ?_
      refine then_next ?_
      refine vc_decideU rfl (fun h25 => ?_) (fun h25 => ?_)
      · skip
        refine vc_skip ?_
        refine then_next ?_
        refine vc_seq ?_
        refine vc_block ?_
        refine vc_seq ?_
        refine vc_region ?_
        refine vl_det (det_assign rfl) rfl ?_
        refine vl_end [(0, _), (4, _), (6, _), (7, _), (8, _), (9, _), (10, _)] ⟨rfl, rfl, rfl, rfl, rfl, rfl, rfl, trivial⟩ ?_
        refine then_next ?_
        refine vc_block ?_
        refine vc_loopJ (fun zf zL zm => ∃ (s next was : Nat) (any : Bool), (s ≤ l.length ∧ RC l L s next was any) ∧ l.length - s = zm ∧ Sub zf [(0, .slice A l.length c), (4, .slice A4 l.length c4), (6, .int .i64 (next : Int)), (7, .int .i64 (was : Int)), (8, .bool any), (9, .int .i64 L), (10, .int .i64 s)] ∧ Wk zL (.own 30 1 A4 l.length c4 (ints .u16 (outR l L s)) :: F)) _ ⟨0, next, was, any, ⟨Nat.zero_le _, hR⟩, rfl, ⟨(by first | rfl | exact int_to (by omega)), (by first | rfl | exact int_to (by omega)), (by first | rfl | exact int_to (by omega)), (by first | rfl | exact int_to (by omega)), (by first | rfl | exact int_to (by omega)), (by first | rfl | exact int_to (by omega)), (by first | rfl | exact int_to (by omega)), trivial⟩, .refl _⟩ ?_
        rintro _ _ _ ⟨s, next, was, any, ⟨hs, hR⟩, rfl, hs, hp⟩
        refine vc_weaken _ hs (vc_wk hp ?_)
        clear hs hp
        refine vc_seq ?_
        refine vc_seq ?_
        refine vc_region ?_
        refine vl_det (det_move rfl) rfl ?_
        refine vl_det (det_move rfl) rfl ?_
        refine vl_det (det_len_sl Try.underlying22 rfl) rfl ?_
        refine vl_det (det_lss rfl rfl) rfl ?_
        refine vl_end [(0, _), (4, _), (6, _), (7, _), (8, _), (9, _), (10, _), (31, _)] ⟨rfl, rfl, rfl, rfl, rfl, rfl, rfl, rfl, trivial⟩ ?_
        refine then_next ?_
        refine vc_decideU rfl (fun h31 => ?_) (fun h31 => ?_)
        · skip
          have hu := hf.2 _ (getD_mem (k := s) (by omega) 0)
          have hp := place_small hfl hL s
          have hwas := hR.1
          refine vc_skip ?_
          refine then_next ?_
          refine vc_seq ?_
          refine vc_block ?_
          refine vc_seq ?_
          refine vc_seq ?_
          refine vc_region ?_
          refine vl_det (det_move rfl) rfl ?_
          refine vl_det (det_move rfl) rfl ?_
          refine vl_det (det_indexAddr Try.underlying22 (by kernel_rfl) rfl rfl rfl (by omega) (by first | (exact Bor.own (by repeat (first | exact List.Mem.head _ | apply List.Mem.tail))) | (repeat (first | assumption | apply Bor.cons)))) rfl ?_
          refine vl_det (det_load_u8 (by kernel_rfl) rfl (by first | (exact Bor.own (by repeat (first | exact List.Mem.head _ | apply List.Mem.tail))) | (repeat (first | assumption | apply Bor.cons))) (by omega)) rfl ?_
          refine vl_det (det_conv Try.underlying5 Try.underlying3 rfl (w_i64 (by omega) (by omega))) rfl ?_
          refine vl_det (det_move rfl) rfl ?_
          refine vl_det (det_neq rfl rfl) rfl ?_
          refine vl_end [(0, _), (4, _), (6, _), (7, _), (8, _), (9, _), (10, _), (40, _)] ⟨rfl, rfl, rfl, rfl, rfl, rfl, rfl, rfl, trivial⟩ ?_
          refine then_next ?_
          refine vc_decideU rfl (fun h40 => ?_) (fun h40 => ?_)
          · skip
            refine vc_exit ?_
            refine then_exit ?_
            refine in_eq ?_
            refine then_next ?_
            refine vc_region ?_
            refine vl_det (det_move rfl) rfl ?_
            refine vl_det (det_add rfl rfl (w_i64 (by omega) (by omega))) rfl ?_
            refine vl_det (det_assign rfl) rfl ?_
            refine vl_end [(0, _), (4, _), (6, _), (7, _), (8, _), (9, _), (10, _)] ⟨rfl, rfl, rfl, rfl, rfl, rfl, rfl, trivial⟩ ?_
            refine in_loop_ ⟨_, by omega, s + 1, next, was, any, ⟨by omega, hR.miss (by omega) (by omega)⟩, rfl, ⟨(by first | rfl | exact int_to (by omega)), (by first | rfl | exact int_to (by omega)), (by first | rfl | exact int_to (by omega)), (by first | rfl | exact int_to (by omega)), (by first | rfl | exact int_to (by omega)), (by first | rfl | exact int_to (by omega)), (by first | rfl | exact int_to (by omega)), trivial⟩, wk_own rfl (by rw [outR_miss (by omega)]) (.refl _)⟩
          · skip
            refine vc_skip ?_
            refine then_next ?_
            refine vc_seqJ (fun zf zL => Sub zf [(0, .slice A l.length c), (4, .slice A4 l.length c4), (6, .int .i64 (place l L s : Int)), (9, .int .i64 L), (10, .int .i64 s)] ∧ Wk zL (.own 30 1 A4 l.length c4 (ints .u16 (outR l L s)) :: F)) ?_ ?_
            · skip
              refine vc_seq ?_
              refine vc_region ?_
              refine vl_det (det_move rfl) rfl ?_
              refine vl_end [(0, _), (4, _), (6, _), (7, _), (9, _), (10, _), (41, _)] ⟨rfl, rfl, rfl, rfl, rfl, rfl, rfl, trivial⟩ ?_
              refine then_next ?_
              refine vc_condU rfl (fun h41 => ?_) (fun h41 => ?_)
              · skip
                have hy := hR.2.1 h41
                have hyl := le_pow hy
                refine vc_seq ?_
                refine vc_region ?_
                refine vl_det (det_move rfl) rfl ?_
                refine vl_det (det_add rfl rfl (w_i64 (by omega) (by omega))) rfl ?_
                refine vl_det (det_assign rfl) rfl ?_
                refine vl_end [(0, _), (4, _), (6, _), (7, _), (9, _), (10, _)] ⟨rfl, rfl, rfl, rfl, rfl, rfl, trivial⟩ ?_
                refine then_next ?_
                refine vc_seq ?_
                refine vc_region ?_
                refine vl_det (det_move rfl) rfl ?_
                refine vl_det (det_assign rfl) rfl ?_
                refine vl_end [(0, _), (4, _), (6, _), (9, _), (10, _), (11, _)] ⟨rfl, rfl, rfl, rfl, rfl, rfl, trivial⟩ ?_
                refine then_next ?_
                refine vc_block ?_
                refine vc_loopJ (fun zf zL zm => ∃ (j y : Nat), ((was ≤ j ∧ j ≤ L) ∧ y * 2 ^ (L - j) = place l L s) ∧ L - j = zm ∧ Sub zf [(0, .slice A l.length c), (4, .slice A4 l.length c4), (6, .int .i64 (y : Int)), (9, .int .i64 L), (10, .int .i64 s), (11, .int .i64 j)] ∧ Wk zL (.own 30 1 A4 l.length c4 (ints .u16 (outR l L s)) :: F)) _ ⟨was, next + 1, ⟨⟨by omega, hwas⟩, hy⟩, rfl, ⟨(by first | rfl | exact int_to (by omega)), (by first | rfl | exact int_to (by omega)), (by first | rfl | exact int_to (by omega)), (by first | rfl | exact int_to (by omega)), (by first | rfl | exact int_to (by omega)), (by first | rfl | exact int_to (by omega)), trivial⟩, .refl _⟩ ?_
                rintro _ _ _ ⟨j, y, ⟨⟨hj1, hj⟩, hy⟩, rfl, hs, hp⟩
                refine vc_weaken _ hs (vc_wk hp ?_)
                clear hs hp
                have hyl := le_pow hy
                refine vc_seq ?_
                refine vc_seq ?_
                refine vc_region ?_
                refine vl_det (det_move rfl) rfl ?_
                refine vl_det (det_move rfl) rfl ?_
                refine vl_det (det_lss rfl rfl) rfl ?_
                refine vl_end [(0, _), (4, _), (6, _), (9, _), (10, _), (11, _), (47, _)] ⟨rfl, rfl, rfl, rfl, rfl, rfl, rfl, trivial⟩ ?_
                refine then_next ?_
                refine vc_decideU rfl (fun h47 => ?_) (fun h47 => ?_)
                · skip
                  refine vc_skip ?_
                  refine then_next ?_
                  refine vc_seq ?_
                  refine vc_block ?_
                  refine vc_region ?_
                  refine vl_det (det_move rfl) rfl ?_
                  refine vl_det (det_mul rfl rfl (w_i64 (by omega) (by omega))) rfl ?_
                  refine vl_det (det_assign rfl) rfl ?_
                  refine vl_end [(0, _), (4, _), (6, _), (9, _), (10, _), (11, _)] ⟨rfl, rfl, rfl, rfl, rfl, rfl, trivial⟩ ?_
                  refine in_normal ?_
                  refine then_next ?_
                  refine vc_region ?_
                  refine vl_det (det_move rfl) rfl ?_
                  refine vl_det (det_add rfl rfl (w_i64 (by omega) (by omega))) rfl ?_
                  refine vl_det (det_assign rfl) rfl ?_
                  refine vl_end [(0, _), (4, _), (6, _), (9, _), (10, _), (11, _)] ⟨rfl, rfl, rfl, rfl, rfl, rfl, trivial⟩ ?_
                  refine in_loop_ ⟨_, by omega, j + 1, 2 * y, ⟨⟨by omega, by omega⟩, pow_more hy (by omega)⟩, rfl, ⟨(by first | rfl | exact int_to (by omega)), (by first | rfl | exact int_to (by omega)), (by first | rfl | exact int_to (by omega)), (by first | rfl | exact int_to (by omega)), (by first | rfl | exact int_to (by omega)), (by first | rfl | exact int_to (by omega)), trivial⟩, .refl _⟩
                · skip
                  refine vc_exit ?_
                  refine then_exit ?_
                  refine loop_exit ?_
                  refine in_eq ?_
                  have hjL : j = L := by omega
                  subst hjL
                  have hy1 : y = place l j s := by simpa using hy
                  subst hy1
                  exact in_join ⟨⟨(by first | rfl | exact int_to (by omega)), (by first | rfl | exact int_to (by omega)), (by first | rfl | exact int_to (by omega)), (by first | rfl | exact int_to (by omega)), (by first | rfl | exact int_to (by omega)), trivial⟩, .refl _⟩
              · skip
                have hy := hR.2.2 h41
                refine vc_skip ?_
                have e1 := hy.1
                have e2 := hy.2
                exact in_join ⟨⟨(by first | rfl | exact int_to (by omega)), (by first | rfl | exact int_to (by omega)), (by first | rfl | exact int_to (by omega)), (by first | rfl | exact int_to (by omega)), (by first | rfl | exact int_to (by omega)), trivial⟩, .refl _⟩
            · rintro _ _ ⟨hs, hp⟩
              refine vc_weaken _ hs (vc_wk hp ?_)
              clear hs hp
              refine vc_seq ?_
              refine vc_region ?_
              refine vl_det (det_assign rfl) rfl ?_
              refine vl_end [(0, _), (4, _), (6, _), (8, _), (9, _), (10, _)] ⟨rfl, rfl, rfl, rfl, rfl, rfl, trivial⟩ ?_
              refine then_next ?_
              refine vc_seq ?_
              refine vc_region ?_
              refine vl_det (det_move rfl) rfl ?_
              refine vl_det (det_assign rfl) rfl ?_
              refine vl_end [(0, _), (4, _), (6, _), (7, _), (8, _), (9, _), (10, _)] ⟨rfl, rfl, rfl, rfl, rfl, rfl, rfl, trivial⟩ ?_
              refine then_next ?_
              refine vc_region ?_
              refine vl_det (det_move rfl) rfl ?_
              refine vl_det (det_move rfl) rfl ?_
              refine vl_det (det_move rfl) rfl ?_
              refine vl_det (det_conv Try.underlying3 Try.underlying30 rfl (code_at (l := l) (s := s) (by omega) (by rw [show (l.getD s 0).toNat = L by omega]))) rfl ?_
              refine vl_det (det_indexAddr Try.underlying27 (by kernel_rfl) rfl rfl rfl (by omega) (by first | (exact Bor.own (by repeat (first | exact List.Mem.head _ | apply List.Mem.tail))) | (repeat (first | assumption | apply Bor.cons)))) rfl ?_
              refine vl_eff0 (eff_store_row (by kernel_rfl) rfl rfl rfl (by repeat (first | exact .hd | apply Sel.tl)) (by rw [ints_length, outR_length]; omega)) ?_
              rintro _ _ rfl
              refine vl_end [(0, _), (4, _), (6, _), (7, _), (8, _), (9, _), (10, _)] ⟨rfl, rfl, rfl, rfl, rfl, rfl, rfl, trivial⟩ ?_
              refine in_normal ?_
              refine then_next ?_
              refine vc_region ?_
              refine vl_det (det_move rfl) rfl ?_
              refine vl_det (det_add rfl rfl (w_i64 (by omega) (by omega))) rfl ?_
              refine vl_det (det_assign rfl) rfl ?_
              refine vl_end [(0, _), (4, _), (6, _), (7, _), (8, _), (9, _), (10, _)] ⟨rfl, rfl, rfl, rfl, rfl, rfl, rfl, trivial⟩ ?_
              refine in_loop_ ⟨_, by omega, s + 1, place l L s, L, true, ⟨by omega, RC.hit (by omega) (by omega)⟩, rfl, ⟨(by first | rfl | exact int_to (by omega)), (by first | rfl | exact int_to (by omega)), (by first | rfl | exact int_to (by omega)), (by first | rfl | exact int_to (by omega)), (by first | rfl | exact int_to (by omega)), (by first | rfl | exact int_to (by omega)), (by first | rfl | exact int_to (by omega)), trivial⟩, wk_own rfl (by rw [ints_set, outR_hit (by omega) (by omega) hL1]) (.refl _)⟩
        · skip
          refine vc_exit ?_
          refine then_exit ?_
          refine loop_exit ?_
          refine in_eq ?_
          refine in_normal ?_
          refine then_next ?_
          refine vc_region ?_
          refine vl_det (det_move rfl) rfl ?_
          refine vl_det (det_add rfl rfl (w_i64 (by omega) (by omega))) rfl ?_
          refine vl_det (det_assign rfl) rfl ?_
          refine vl_end [(0, _), (4, _), (6, _), (7, _), (8, _), (9, _)] ⟨rfl, rfl, rfl, rfl, rfl, rfl, trivial⟩ ?_
          have hsn : s = l.length := by omega
          subst hsn
          refine in_loop_ ⟨_, by omega, L + 1, next, was, any, ⟨⟨by omega, by omega⟩, hR.next hL1⟩, rfl, ⟨(by first | rfl | exact int_to (by omega)), (by first | rfl | exact int_to (by omega)), (by first | rfl | exact int_to (by omega)), (by first | rfl | exact int_to (by omega)), (by first | rfl | exact int_to (by omega)), (by first | rfl | exact int_to (by omega)), trivial⟩, wk_own rfl (by rw [outR_next]) (.refl _)⟩
      · skip
        refine vc_exit ?_
        refine then_exit ?_
        refine loop_exit ?_
        refine in_eq ?_
        refine then_next ?_
        refine vc_seq ?_
        refine vc_region ?_
        refine vl_det (det_move rfl) rfl ?_
        refine vl_det (det_assign rfl) rfl ?_
        refine vl_det (det_assign rfl) rfl ?_
        refine vl_end [(2, _), (3, _)] ⟨rfl, rfl, trivial⟩ ?_
        refine then_next ?_
        refine vc_ret ?_
        have hL16 : L = 16 := by omega
        subst hL16
        rw [outR_all hf.2]
        refine ret2 rfl rfl rfl ?_
        exact ⟨A4, c4, rfl, rfl⟩
end Go.Proofs.Ytpdnohllbijonaa
