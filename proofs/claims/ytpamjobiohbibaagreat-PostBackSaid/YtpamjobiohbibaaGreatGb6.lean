/-
  Texts of one proof, joined: part 6. No condition.
-/
import Derived.Test.YtpamjobiohbibaaGreatGb5
import Derived.Lib.SliceRun
namespace Go.Proofs.YtpamjobiohbibaaGreat
open Go.RowKit
set_option linter.unusedVariables false
set_option maxRecDepth 20000
variable {B : Nat} {w0 : World} {F : List Ch} {A : Option Addr} {n c g : Nat} {bt : TypeId} {f : Ch → List Ch}
/-- a writer's memory -/
abbrev Wr (g : Nat) (bt : TypeId) (A : Option Addr) (c : Nat) (q : List Bool) (F : List Ch) : List Ch := .blk g bt [.slice A (packed q).length c, .int .i64 q.length] :: .own 5 1 A (packed q).length c (bv (packed q)) :: F
theorem put_d (q : List Bool) (v : Nat) (hv : v < 18446744073709551616) (n : Nat) (hn : n ≤ 64) (hp : v < 2 ^ n) (hq : q.length ≤ 7000000) :
    Does Tryz.prog B w0 33 [.pointer (some ⟨g, 0, none⟩), .int .u64 v, .int .i64 n] (Wr g bt A c q F)
      (fun r L => r = .int .i64 0 ∧ ∃ A' c', L = Wr g bt A' c' (q ++ hi v n n) F) := by
  refine fn_walk Tryz.func33 42 rfl rfl rfl [(0, .pointer (some ⟨g, 0, none⟩)), (1, .int .u64 v), (2, .int .i64 n)] ⟨⟨rfl, rfl⟩, ⟨rfl, rfl⟩, ⟨rfl, rfl⟩, trivial⟩ ?_
  refine vc_seq ?_
  refine vc_region ?_
  refine vl_det (det_assign rfl) rfl ?_
  refine vl_end [(0, _), (1, _), (2, _)] ⟨rfl, rfl, rfl, trivial⟩ ?_
  refine then_next ?_
  refine vc_seq ?_
  refine vc_seq ?_
  refine vc_region ?_
  refine vl_cut 20 27 [(0, _), (1, _), (2, _)] (False) ⟨rfl, rfl, rfl, trivial⟩ ?_ ?_
  · skip
    refine vl_det (det_move rfl) rfl ?_
    refine vl_det (det_ptr_nil Tryz.underlying108 rfl rfl) rfl ?_
    refine vl_det (det_move rfl) rfl ?_
    refine vl_guard_t rfl rfl ?_
    refine vl_det (det_move rfl) rfl ?_
    refine vl_guard_t rfl rfl ?_
    refine vl_det (det_lss rfl rfl) rfl ?_
    refine vl_det (det_pick_f rfl rfl) rfl ?_
    refine vl_det (det_move rfl) rfl ?_
    refine vl_guardn rfl rfl rfl (fun h14 => ?_) (fun h14 => ?_)
    · skip
      refine vl_det (det_move rfl) rfl ?_
      refine vl_guard_t rfl rfl ?_
      refine vl_det (det_gtr rfl rfl) rfl ?_
      refine vl_det (det_pick_f rfl rfl) rfl ?_
      refine vl_det (det_move rfl) rfl ?_
      refine vl_guardn rfl rfl rfl (fun h18 => ?_) (fun h18 => ?_)
      · skip
        refine vl_det (det_move rfl) rfl ?_
        refine vl_guard_t rfl rfl ?_
        refine vl_det (det_lss rfl rfl) rfl ?_
        refine vl_guard_t rfl rfl ?_
        refine vl_det (det_move rfl) rfl ?_
        refine vl_guardp rfl rfl rfl (fun h21 => ?_) (fun h21 => ?_)
        · skip
          refine vl_det (det_move rfl) rfl ?_
          refine vl_guard_t rfl rfl ?_
          refine vl_det (det_move rfl) rfl ?_
          refine vl_guard_t rfl rfl ?_
          refine vl_det (det_shr rfl rfl (by omega) (shr_at v (e := n) rfl (by omega))) rfl ?_
          refine vl_guard_t rfl rfl ?_
          refine vl_det (det_neq rfl rfl) rfl ?_
          refine vl_guard_t rfl rfl ?_
          refine vl_det (det_pick_t rfl rfl) rfl ?_
          refine vl_det (det_pick_f rfl rfl) rfl ?_
          exact vl_cut_end ⟨rfl, rfl, rfl, trivial⟩ (by first | rfl | exact bool_to_t (by first | (exact ⟨fun h => puts_shr h hp, False.elim⟩) | omega | (simp at h10; done)) | exact bool_to_f (by first | (exact ⟨fun h => puts_shr h hp, False.elim⟩) | omega | (simp at h10; done)) | exact bool_to (by first | (exact ⟨fun h => puts_shr h hp, False.elim⟩) | omega | (simp at h10; done)) | exact bool_to_b (by first | (exact ⟨fun h => puts_shr h hp, False.elim⟩) | omega | (simp at h10; done)))
        · skip
          refine vl_guard_f rfl rfl rfl rfl ?_
          refine vl_guard_f rfl rfl rfl rfl ?_
          refine vl_guard_f rfl rfl rfl rfl ?_
          refine vl_guard_t rfl rfl ?_
          refine vl_det (det_pick_f rfl rfl) rfl ?_
          refine vl_det (det_pick_f rfl rfl) rfl ?_
          exact vl_cut_end ⟨rfl, rfl, rfl, trivial⟩ (by first | rfl | exact bool_to_t (by first | (exact ⟨fun h => puts_shr h hp, False.elim⟩) | omega | (simp at h10; done)) | exact bool_to_f (by first | (exact ⟨fun h => puts_shr h hp, False.elim⟩) | omega | (simp at h10; done)) | exact bool_to (by first | (exact ⟨fun h => puts_shr h hp, False.elim⟩) | omega | (simp at h10; done)) | exact bool_to_b (by first | (exact ⟨fun h => puts_shr h hp, False.elim⟩) | omega | (simp at h10; done)))
      · skip
        refine vl_guard_f rfl rfl rfl rfl ?_
        refine vl_guard_f rfl rfl rfl rfl ?_
        refine vl_guard_u rfl rfl rfl ?_
        refine vl_guard_u rfl rfl rfl ?_
        refine vl_guard_u rfl rfl rfl ?_
        refine vl_guard_u rfl rfl rfl ?_
        refine vl_guard_f rfl rfl rfl rfl ?_
        refine vl_det (det_pick_t rfl rfl) rfl ?_
        exact vl_cut_end ⟨rfl, rfl, rfl, trivial⟩ (by first | rfl | exact bool_to_t (by first | (exact ⟨fun h => puts_shr h hp, False.elim⟩) | omega | (simp at h10; done)) | exact bool_to_f (by first | (exact ⟨fun h => puts_shr h hp, False.elim⟩) | omega | (simp at h10; done)) | exact bool_to (by first | (exact ⟨fun h => puts_shr h hp, False.elim⟩) | omega | (simp at h10; done)) | exact bool_to_b (by first | (exact ⟨fun h => puts_shr h hp, False.elim⟩) | omega | (simp at h10; done)))
    · skip
      refine vl_guard_f rfl rfl rfl rfl ?_
      refine vl_det (det_pick_t rfl rfl) rfl ?_
      refine vl_det (det_move rfl) rfl ?_
      refine vl_guard_f rfl rfl rfl rfl ?_
      refine vl_guard_f rfl rfl rfl rfl ?_
      refine vl_guard_f rfl rfl rfl rfl ?_
      refine vl_guard_u rfl rfl rfl ?_
      refine vl_guard_u rfl rfl rfl ?_
      refine vl_guard_u rfl rfl rfl ?_
      refine vl_guard_u rfl rfl rfl ?_
      refine vl_guard_f rfl rfl rfl rfl ?_
      refine vl_det (det_pick_t rfl rfl) rfl ?_
      exact vl_cut_end ⟨rfl, rfl, rfl, trivial⟩ (by first | rfl | exact bool_to_t (by first | (exact ⟨fun h => puts_shr h hp, False.elim⟩) | omega | (simp at h10; done)) | exact bool_to_f (by first | (exact ⟨fun h => puts_shr h hp, False.elim⟩) | omega | (simp at h10; done)) | exact bool_to (by first | (exact ⟨fun h => puts_shr h hp, False.elim⟩) | omega | (simp at h10; done)) | exact bool_to_b (by first | (exact ⟨fun h => puts_shr h hp, False.elim⟩) | omega | (simp at h10; done)))
  · skip
    refine vl_end [(0, _), (1, _), (2, _), (27, _)] ⟨rfl, rfl, rfl, rfl, trivial⟩ ?_
    refine then_next ?_
    refine vc_decideU rfl (fun h27 => ?_) (fun h27 => ?_)
    · skip
      exfalso; omega
    · skip
      refine vc_skip ?_
      refine then_next ?_
      refine vc_seq ?_
      refine vc_seq ?_
      refine vc_region ?_
      refine vl_det (det_move rfl) rfl ?_
      refine vl_det (det_sub rfl rfl (w_i64 (by omega) (by omega))) rfl ?_
      refine vl_det (det_assign rfl) rfl ?_
      refine vl_end [(0, _), (1, _), (7, _)] ⟨rfl, rfl, rfl, trivial⟩ ?_
      refine then_next ?_
      refine vc_block ?_
      refine vc_loopJ (fun zf zL zm => ∃ (m : Nat) (A' : Option Addr) (c' : Nat), (m ≤ n) ∧ n - m = zm ∧ Sub zf [(0, .pointer (some ⟨g, 0, none⟩)), (1, .int .u64 v), (7, .int .i64 ((n : Int) - m - 1))] ∧ Wk zL (Wr g bt A' c' (q ++ hi v n m) F)) _ ⟨0, A, c, Nat.zero_le _, rfl, ⟨(by first | rfl | exact int_to (by omega) | exact sl_to (by omega)), (by first | rfl | exact int_to (by omega) | exact sl_to (by omega)), (by first | rfl | exact int_to (by omega) | exact sl_to (by omega)), trivial⟩, wk_blk (by rw [hi_zero, List.append_nil]) (wk_own (by rw [hi_zero, List.append_nil]) (by rw [hi_zero, List.append_nil]) (.refl _))⟩ ?_
      rintro _ _ _ ⟨m, A', c', hm, rfl, hs, hp⟩
      refine vc_weaken _ hs (vc_wk hp ?_)
      clear hs hp
      have hll : (q ++ hi v n m).length = q.length + m := by rw [List.length_append, hi_length]
      refine vc_seq ?_
      refine vc_seq ?_
      refine vc_region ?_
      refine vl_det (det_move rfl) rfl ?_
      refine vl_det (det_geq rfl rfl) rfl ?_
      refine vl_end [(0, _), (1, _), (7, _), (31, _)] ⟨rfl, rfl, rfl, rfl, trivial⟩ ?_
      refine then_next ?_
      refine vc_decideU rfl (fun h31 => ?_) (fun h31 => ?_)
      · skip
        refine vc_skip ?_
        refine then_next ?_
        refine vc_seq ?_
        refine vc_block ?_
        refine vh_region (S := F) (by kernel_rfl) (by repeat (first | exact List.Sublist.refl _ | exact List.nil_sublist _ | exact List.sublist_append_right _ _ | apply List.Sublist.cons_cons | apply List.Sublist.cons)) ?_
        refine vh_take 0 rfl (by kernel_rfl) (by kernel_rfl) (by kernel_rfl) (det_move rfl) rfl ?_
        refine vh_take 1 rfl (by kernel_rfl) (by kernel_rfl) (by kernel_rfl) (det_nilCheck rfl) rfl ?_
        refine vh_take 2 rfl (by kernel_rfl) (by kernel_rfl) (by kernel_rfl) (det_fieldAddr_ Tryz.underlying78 rfl (by kernel_rfl) rfl rfl) rfl ?_
        refine vh_take 3 rfl (by kernel_rfl) (by kernel_rfl) (by kernel_rfl) (det_move rfl) rfl ?_
        refine vh_take 4 rfl (by kernel_rfl) (by kernel_rfl) (by kernel_rfl) (det_move rfl) rfl ?_
        refine vh_take 5 rfl (by kernel_rfl) (by kernel_rfl) (by kernel_rfl) (det_shr rfl rfl (by omega) (shr_at v (e := n - 1 - m) (by omega) (by omega))) rfl ?_
        refine vh_take 6 rfl (by kernel_rfl) (by kernel_rfl) (by kernel_rfl) (det_and rfl rfl (shr_and v _ hv)) rfl ?_
        refine vh_one 7 (by kernel_rfl) ?_
        refine st_call rfl .no co59 rfl (add_d (q ++ hi v n m) (v.testBit (n - 1 - m)) (by omega)) rfl (by rintro _ _ ⟨rfl, A41, c41, rfl⟩; exact (by repeat (first | exact List.Sublist.refl _ | exact List.nil_sublist _ | exact List.sublist_append_right _ _ | apply List.Sublist.cons_cons | apply List.Sublist.cons))) ?_
        rintro _ _ ⟨rfl, A41, c41, hLL⟩
        obtain rfl := hLL.symm
        refine vh_done [(0, _), (1, _), (7, _)] ⟨rfl, rfl, rfl, trivial⟩ (by kernel_rfl) ?_
        refine in_normal ?_
        refine then_next ?_
        refine vc_region ?_
        refine vl_det (det_move rfl) rfl ?_
        refine vl_det (det_sub rfl rfl (w_i64 (by omega) (by omega))) rfl ?_
        refine vl_det (det_assign rfl) rfl ?_
        refine vl_end [(0, _), (1, _), (7, _)] ⟨rfl, rfl, rfl, trivial⟩ ?_
        refine in_loop_ ⟨_, by omega, m + 1, A41, c41, by omega, rfl, ⟨(by first | rfl | exact int_to (by omega) | exact sl_to (by omega)), (by first | rfl | exact int_to (by omega) | exact sl_to (by omega)), (by first | rfl | exact int_to (by omega) | exact sl_to (by omega)), trivial⟩, wk_blk (by rw [hi_succ, List.append_assoc]) (wk_own (by rw [hi_succ, List.append_assoc]) (by rw [hi_succ, List.append_assoc]) (.refl _))⟩
      · skip
        refine vc_exit ?_
        refine then_exit ?_
        refine loop_exit ?_
        refine in_eq ?_
        refine then_next ?_
        refine vc_seq ?_
        refine vc_region ?_
        refine vl_det (det_assign rfl) rfl ?_
        refine vl_end [(6, _)] ⟨rfl, trivial⟩ ?_
        refine then_next ?_
        refine vc_ret ?_
        refine ret1 rfl rfl ?_
        have hm' : m = n := by omega
        subst hm'
        exact ⟨rfl, A', c', rfl⟩
theorem unary_d (q : List Bool) (n : Nat) (hn : n ≤ 100000) (hq : q.length ≤ 7000000) :
    Does Tryz.prog B w0 34 [.pointer (some ⟨g, 0, none⟩), .int .i64 n] (Wr g bt A c q F)
      (fun r L => r = .int .i64 0 ∧ ∃ A' c', L = Wr g bt A' c' (q ++ un n) F) := by
  refine fn_walk Tryz.func34 27 rfl rfl rfl [(0, .pointer (some ⟨g, 0, none⟩)), (1, .int .i64 n)] ⟨⟨rfl, rfl⟩, ⟨rfl, rfl⟩, trivial⟩ ?_
  refine vc_seq ?_
  refine vc_region ?_
  refine vl_det (det_assign rfl) rfl ?_
  refine vl_end [(0, _), (1, _)] ⟨rfl, rfl, trivial⟩ ?_
  refine then_next ?_
  refine vc_seq ?_
  refine vc_seq ?_
  refine vc_region ?_
  refine vl_cut 10 14 [(0, _), (1, _)] (False) ⟨rfl, rfl, trivial⟩ ?_ ?_
  · skip
    refine vl_det (det_move rfl) rfl ?_
    refine vl_det (det_ptr_nil Tryz.underlying108 rfl rfl) rfl ?_
    refine vl_det (det_move rfl) rfl ?_
    refine vl_guard_t rfl rfl ?_
    refine vl_det (det_move rfl) rfl ?_
    refine vl_guard_t rfl rfl ?_
    refine vl_det (det_lss rfl rfl) rfl ?_
    refine vl_det (det_pick_f rfl rfl) rfl ?_
    refine vl_det (det_move rfl) rfl ?_
    refine vl_guardn rfl rfl rfl (fun h11 => ?_) (fun h11 => ?_)
    · skip
      refine vl_det (det_move rfl) rfl ?_
      refine vl_guard_t rfl rfl ?_
      refine vl_det (det_gtr rfl rfl) rfl ?_
      refine vl_det (det_pick_f rfl rfl) rfl ?_
      exact vl_cut_end ⟨rfl, rfl, trivial⟩ (by first | rfl | exact bool_to_t (by first | (exact ⟨fun h => absurd h (by omega), False.elim⟩) | omega | (simp at h7; done)) | exact bool_to_f (by first | (exact ⟨fun h => absurd h (by omega), False.elim⟩) | omega | (simp at h7; done)) | exact bool_to (by first | (exact ⟨fun h => absurd h (by omega), False.elim⟩) | omega | (simp at h7; done)) | exact bool_to_b (by first | (exact ⟨fun h => absurd h (by omega), False.elim⟩) | omega | (simp at h7; done)))
    · skip
      refine vl_guard_f rfl rfl rfl rfl ?_
      refine vl_det (det_pick_t rfl rfl) rfl ?_
      exact vl_cut_end ⟨rfl, rfl, trivial⟩ (by first | rfl | exact bool_to_t (by first | (exact ⟨fun h => absurd h (by omega), False.elim⟩) | omega | (simp at h7; done)) | exact bool_to_f (by first | (exact ⟨fun h => absurd h (by omega), False.elim⟩) | omega | (simp at h7; done)) | exact bool_to (by first | (exact ⟨fun h => absurd h (by omega), False.elim⟩) | omega | (simp at h7; done)) | exact bool_to_b (by first | (exact ⟨fun h => absurd h (by omega), False.elim⟩) | omega | (simp at h7; done)))
  · skip
    refine vl_end [(0, _), (1, _), (14, _)] ⟨rfl, rfl, rfl, trivial⟩ ?_
    refine then_next ?_
    refine vc_decideU rfl (fun h14 => ?_) (fun h14 => ?_)
    · skip
      exfalso; omega
    · skip
      refine vc_skip ?_
      refine then_next ?_
      refine vc_seq ?_
      refine vc_seq ?_
      refine vc_region ?_
      refine vl_det (det_move rfl) rfl ?_
      refine vl_det (det_move rfl) rfl ?_
      refine vl_end [(0, _), (15, _), (16, _)] ⟨rfl, rfl, rfl, trivial⟩ ?_
      refine then_next ?_
      refine vc_block ?_
      refine vc_loopJ (fun zf zL zm => ∃ (m : Nat) (A' : Option Addr) (c' : Nat), (m ≤ n) ∧ n - m = zm ∧ Sub zf [(0, .pointer (some ⟨g, 0, none⟩)), (15, .int .i64 n), (16, .int .i64 m)] ∧ Wk zL (Wr g bt A' c' (q ++ List.replicate m false) F)) _ ⟨0, A, c, Nat.zero_le _, rfl, ⟨(by first | rfl | exact int_to (by omega) | exact sl_to (by omega)), (by first | rfl | exact int_to (by omega) | exact sl_to (by omega)), (by first | rfl | exact int_to (by omega) | exact sl_to (by omega)), trivial⟩, wk_blk (by rw [List.replicate_zero, List.append_nil]) (wk_own (by rw [List.replicate_zero, List.append_nil]) (by rw [List.replicate_zero, List.append_nil]) (.refl _))⟩ ?_
      rintro _ _ _ ⟨m, A', c', hm, rfl, hs, hp⟩
      refine vc_weaken _ hs (vc_wk hp ?_)
      clear hs hp
      have hll : (q ++ List.replicate m false).length = q.length + m := by rw [List.length_append, List.length_replicate]
      refine vc_seq ?_
      refine vc_region ?_
      refine vl_det (det_lss rfl rfl) rfl ?_
      refine vl_end [(0, _), (15, _), (16, _), (17, _)] ⟨rfl, rfl, rfl, rfl, trivial⟩ ?_
      refine then_next ?_
      refine vc_seq ?_
      refine vc_decideU rfl (fun h17 => ?_) (fun h17 => ?_)
      · skip
        refine vc_skip ?_
        refine then_next ?_
        refine vc_seq ?_
        refine vc_block ?_
        refine vc_region ?_
        refine vl_det (det_move rfl) rfl ?_
        refine vl_det (det_nilCheck rfl) rfl ?_
        refine vl_det (det_fieldAddr_ Tryz.underlying78 rfl (by kernel_rfl) rfl rfl) rfl ?_
        refine vl_call co59 rfl (add_d (q ++ List.replicate m false) false (by omega)) rfl ?_
        rintro _ _ ⟨rfl, A21, c21, hLL⟩
        obtain rfl := hLL.symm
        refine vl_end [(0, _), (15, _), (16, _)] ⟨rfl, rfl, rfl, trivial⟩ ?_
        refine in_normal ?_
        refine then_next ?_
        refine vc_region ?_
        refine vl_det (det_add rfl rfl (w_i64 (by omega) (by omega))) rfl ?_
        refine vl_det (det_move rfl) rfl ?_
        refine vl_end [(0, _), (15, _), (16, _)] ⟨rfl, rfl, rfl, trivial⟩ ?_
        refine in_loop_ ⟨_, by omega, m + 1, A21, c21, by omega, rfl, ⟨(by first | rfl | exact int_to (by omega) | exact sl_to (by omega)), (by first | rfl | exact int_to (by omega) | exact sl_to (by omega)), (by first | rfl | exact int_to (by omega) | exact sl_to (by omega)), trivial⟩, wk_blk (by rw [rep_snoc, List.append_assoc]) (wk_own (by rw [rep_snoc, List.append_assoc]) (by rw [rep_snoc, List.append_assoc]) (.refl _))⟩
      · skip
        refine vc_exit ?_
        refine then_exit ?_
        refine loop_exit ?_
        refine in_eq ?_
        refine then_next ?_
        refine vc_seq ?_
        refine vc_region ?_
        refine vl_det (det_move rfl) rfl ?_
        refine vl_det (det_nilCheck rfl) rfl ?_
        refine vl_det (det_fieldAddr_ Tryz.underlying78 rfl (by kernel_rfl) rfl rfl) rfl ?_
        refine vl_call co59 rfl (add_d (q ++ List.replicate m false) true (by omega)) rfl ?_
        rintro _ _ ⟨rfl, A26, c26, hLL⟩
        obtain rfl := hLL.symm
        refine vl_end [] trivial ?_
        refine then_next ?_
        refine vc_seq ?_
        refine vc_region ?_
        refine vl_det (det_assign rfl) rfl ?_
        refine vl_end [(4, _)] ⟨rfl, trivial⟩ ?_
        refine then_next ?_
        refine vc_ret ?_
        refine ret1 rfl rfl ?_
        have hm' : m = n := by omega
        subst hm'
        exact ⟨rfl, A26, c26, by rw [List.append_assoc]; rfl⟩
theorem bytes_d (q : List Bool) (hq : q.length ≤ 8000000) : Does Tryz.prog B w0 35 [.pointer (some ⟨g, 0, none⟩)] (Wr g bt A c q F) (fun r L => ∃ A' c', r = .slice A' (packed q).length c' ∧ L = .own 5 1 A' (packed q).length c' (bv (packed q)) :: Wr g bt A c q F) := by
  have hpl := packed_length q
  refine fn_walk Tryz.func35 11 rfl rfl rfl [(0, .pointer (some ⟨g, 0, none⟩))] ⟨⟨rfl, rfl⟩, trivial⟩ ?_
  refine vc_seq ?_
  refine vc_region ?_
  refine vl_det (det_assign rfl) rfl ?_
  refine vl_end [(0, _)] ⟨rfl, trivial⟩ ?_
  refine then_next ?_
  refine vc_seq ?_
  refine vc_seq ?_
  refine vc_region ?_
  refine vl_det (det_move rfl) rfl ?_
  refine vl_det (det_ptr_nil Tryz.underlying108 rfl rfl) rfl ?_
  refine vl_end [(0, _), (4, _)] ⟨rfl, rfl, trivial⟩ ?_
  refine then_next ?_
  refine vc_cond_f rfl ?_
  refine vc_skip ?_
  refine then_next ?_
  refine vc_seq ?_
  refine vc_region ?_
  refine vl_det (det_move rfl) rfl ?_
  refine vl_det (det_nilCheck rfl) rfl ?_
  refine vl_det (det_fieldAddr_ Tryz.underlying78 rfl (by kernel_rfl) rfl rfl) rfl ?_
  refine vl_det (det_fieldAddr_ Tryz.underlying76 rfl (by kernel_rfl) rfl rfl) rfl ?_
  refine vl_det (det_load_blk (by kernel_rfl) rfl (by repeat (first | exact .hd | apply Sel.tl)) rfl) rfl ?_
  refine vl_call co60 rfl (clone_d (packed q) (by first | (exact Bor.own (by repeat (first | exact List.Mem.head _ | apply List.Mem.tail))) | (repeat (first | assumption | apply Bor.cons))) (by omega)) rfl ?_
  rintro _ _ ⟨A10, c10, rfl, hLL⟩
  obtain rfl := hLL.symm
  refine vl_det (det_assign rfl) rfl ?_
  refine vl_end [(2, _)] ⟨rfl, trivial⟩ ?_
  refine then_next ?_
  refine vc_ret ?_
  refine ret1 rfl rfl ?_
  exact ⟨A10, c10, rfl, rfl⟩
end Go.Proofs.YtpamjobiohbibaaGreat
namespace Go.Proofs.YtpamjobiohbibaaGreat
open Go.RowKit
set_option linter.unusedVariables false
set_option maxRecDepth 20000
def u16v (l : List Nat) : List Value := l.map fun (n : Nat) => Value.int .u16 (n : Int)
@[simp] theorem u16v_append (l k : List Nat) : u16v (l ++ k) = u16v l ++ u16v k := by simp [u16v]
@[simp] theorem u16v_length (l : List Nat) : (u16v l).length = l.length := by simp [u16v]
theorem u16v_get {l : List Nat} {k : Nat} (h : k < l.length) : (u16v l)[k * 1]? = some (.int .u16 (l.getD k 0 : Nat)) := by
  simp [u16v, List.getD, List.getElem?_eq_getElem h]
/-- numbers rise below a bound -/
def risC (bound : Int) (ids : List Int) (i : Nat) : Prop := 0 ≤ ids.getD i 0 ∧ ids.getD i 0 < bound ∧ (0 < i → ids.getD (i - 1) 0 < ids.getD i 0)
def Ris (bound : Int) (ids : List Int) : Prop := ∀ i, i < ids.length → risC bound ids i
instance (bound : Int) (ids : List Int) (i : Nat) : Decidable (risC bound ids i) := inferInstanceAs (Decidable (_ ∧ _ ∧ _))
instance (bound : Int) (ids : List Int) : Decidable (Ris bound ids) := inferInstanceAs (Decidable (∀ i, i < ids.length → _))
/-- .. as_ numbers that are not below 0 -/
def RisN (bound : Nat) (xs : List Nat) : Prop := ∀ i, i < xs.length → xs.getD i 0 < bound ∧ (0 < i → xs.getD (i - 1) 0 < xs.getD i 0)
theorem Ris.nats {bound : Int} {ids : List Int} (h : Ris bound ids) : ∃ xs : List Nat, ids = xs.map (fun (n : Nat) => (n : Int)) := by
  refine ⟨ids.map Int.toNat, ?_⟩
  apply List.ext_getElem
  · simp
  · intro i h1 h2
    have := (h i h1).1
    rw [List.getD_eq_getElem?_getD, List.getElem?_eq_getElem h1] at this
    simp at this ⊢
    omega
theorem cast_getD (xs : List Nat) (i : Nat) : (xs.map (fun (n : Nat) => (n : Int))).getD i 0 = ((xs.getD i 0 : Nat) : Int) := by
  simp only [List.getD_eq_getElem?_getD, List.getElem?_map]
  cases xs[i]? <;> rfl
theorem ris_iff (bound : Nat) (xs : List Nat) : Ris bound (xs.map (fun (n : Nat) => (n : Int))) ↔ RisN bound xs := by
  unfold Ris RisN risC
  simp only [cast_getD, List.length_map]
  exact ⟨fun h i hi => by have := h i hi; omega, fun h i hi => by have := h i hi; omega⟩
theorem ints_nat (xs : List Nat) : ints .i64 (xs.map (fun (n : Nat) => (n : Int))) = natv xs := by simp [ints, natv]
theorem RisN.ge {bound : Nat} {xs : List Nat} (h : RisN bound xs) : ∀ i, i < xs.length → i ≤ xs.getD i 0
  | 0, _ => Nat.zero_le _
  | i + 1, hi => by
    have h1 := RisN.ge h i (by omega)
    have h2 := (h (i + 1) hi).2 (by omega)
    rw [Nat.add_sub_cancel] at h2
    omega
theorem RisN.len {bound : Nat} {xs : List Nat} (h : RisN bound xs) : xs.length ≤ bound := by
  rcases Nat.eq_zero_or_pos xs.length with h0 | h0
  · omega
  · have h1 := h.ge (xs.length - 1) (by omega)
    have h2 := (h (xs.length - 1) (by omega)).1
    omega
/-- low bits, and how many -/
def wid (bound n : Nat) : Nat := Nat.log2 (bound / n)
theorem wid_le {bound n : Nat} (h : bound ≤ 20000) : wid bound n ≤ 14 := by
  unfold wid
  by_cases h0 : bound / n = 0
  · rw [h0]; decide
  · have : bound / n < 2 ^ 15 := by have := Nat.div_le_self bound n; omega
    have := (Nat.log2_lt h0).2 this
    omega
theorem pow_le14 {w : Nat} (h : w ≤ 14) : 2 ^ w ≤ 16384 := Nat.pow_le_pow_right (by omega) h
def unS (p was : Nat) : List Nat → List Bool
  | [] => []
  | x :: xs => un (x / p - was) ++ unS p (x / p) xs
def loS (p w : Nat) (xs : List Nat) : List Bool := xs.flatMap fun x => hi (x % p) w w
def efQ (p w : Nat) (xs : List Nat) : List Bool := loS p w xs ++ unS p 0 xs
def efB (bound : Nat) (xs : List Nat) : List UInt8 := encN xs.length ++ (if xs.length = 0 then [] else packed (efQ (2 ^ wid bound xs.length) (wid bound xs.length) xs))
def efW (bound : Int) (ids : List Int) : List UInt8 × Int := if bound < 0 ∨ 20000 < bound ∨ ¬ Ris bound ids then ([], 13) else (efB bound.toNat (ids.map Int.toNat), 0)
theorem efW_bad {bound : Int} {ids : List Int} (h : bound < 0 ∨ 20000 < bound ∨ ¬ Ris bound ids) : efW bound ids = ([], 13) := if_pos h
theorem efW_ok {bound : Nat} {xs : List Nat} (h : ¬ ((bound : Int) < 0 ∨ (20000 : Int) < bound ∨ ¬ Ris bound (xs.map (fun (n : Nat) => (n : Int))))) : efW bound (xs.map (fun (n : Nat) => (n : Int))) = (efB bound xs, 0) := by
  have e : (xs.map (fun (n : Nat) => (n : Int))).map Int.toNat = xs := by simp [Function.comp_def]
  unfold efW
  rw [if_neg h, Int.toNat_natCast, e]
theorem loS_snoc (p w : Nat) (xs : List Nat) (x : Nat) : loS p w (xs ++ [x]) = loS p w xs ++ hi (x % p) w w := by simp [loS]
theorem loS_length (p w : Nat) (xs : List Nat) : (loS p w xs).length = xs.length * w := by
  induction xs with
  | nil => simp [loS]
  | cons x xs ih => simp only [loS, List.flatMap_cons, List.length_append, hi_length, List.length_cons, Nat.succ_mul] at ih ⊢; omega
def lastP (p was : Nat) (xs : List Nat) : Nat := xs.foldl (fun _ x => x / p) was
theorem lastP_snoc (p was : Nat) (xs : List Nat) (x : Nat) : lastP p was (xs ++ [x]) = x / p := by simp [lastP]
theorem unS_snoc (p : Nat) (x : Nat) : ∀ (xs : List Nat) (was : Nat), unS p was (xs ++ [x]) = unS p was xs ++ un (x / p - lastP p was xs)
  | [], was => by simp [unS, lastP]
  | y :: xs, was => by
    rw [List.cons_append, unS, unS, unS_snoc p x xs (y / p), List.append_assoc]
    rfl
theorem lastP_take {p : Nat} {xs : List Nat} {k : Nat} (h : k < xs.length) : lastP p 0 (xs.take (k + 1)) = xs.getD k 0 / p := by
  rw [take_getD h 0, lastP_snoc]
theorem lastP_le {bound p : Nat} {xs : List Nat} (h : RisN bound xs) {k : Nat} (hk : k < xs.length) : lastP p 0 (xs.take k) ≤ xs.getD k 0 / p := by
  rcases k with _ | k
  · simp [lastP]
  · rw [lastP_take (by omega)]
    have := (h (k + 1) hk).2 (by omega)
    rw [Nat.add_sub_cancel] at this
    exact Nat.div_le_div_right (Nat.le_of_lt this)
/-- the unary part's length: all steps together are the last number's high part -/
theorem unS_length {bound p : Nat} {xs : List Nat} (h : RisN bound xs) : ∀ k, k ≤ xs.length → (unS p 0 (xs.take k)).length = k + lastP p 0 (xs.take k)
  | 0, _ => by simp [unS, lastP]
  | k + 1, hk => by
    have h1 := unS_length h (p := p) k (by omega)
    have h2 := lastP_le (p := p) h (k := k) (by omega)
    rw [lastP_take (by omega), take_getD (by omega) 0, unS_snoc, List.length_append, un_length, h1]
    omega
theorem lastP_bd {bound p : Nat} {xs : List Nat} (h : RisN bound xs) (k : Nat) (hk : k ≤ xs.length) : lastP p 0 (xs.take k) ≤ bound := by
  rcases k with _ | k
  · simp [lastP]
  · rw [lastP_take (by omega)]
    have := (h k (by omega)).1
    have := Nat.div_le_self (xs.getD k 0) p
    omega
theorem efQ_len {bound p w : Nat} {xs : List Nat} (h : RisN bound xs) (hb : bound ≤ 20000) (hw : w ≤ 14) : (efQ p w xs).length ≤ 400000 := by
  have h1 := loS_length p w xs
  have h2 := unS_length (p := p) h xs.length (Nat.le_refl _)
  have h3 := lastP_bd (p := p) h xs.length (Nat.le_refl _)
  have h4 := h.len
  rw [List.take_length] at h2 h3
  have h5 : xs.length * w ≤ 20000 * 14 := Nat.mul_le_mul (by omega) hw
  unfold efQ
  rw [List.length_append]; omega
end Go.Proofs.YtpamjobiohbibaaGreat
namespace Go.Proofs.YtpamjobiohbibaaGreat
open Go.RowKit
set_option linter.unusedVariables false
set_option maxRecDepth 20000
variable {B : Nat} {w0 : World} {F : List Ch} {A : Option Addr} {n c g : Nat} {bt : TypeId} {f : Ch → List Ch}
abbrev Wf (g : Nat) (bt : TypeId) (A : Option Addr) (c : Nat) (q : List Bool) (F : List Ch) : List Ch := .blk g bt [.slice A q.length c] :: .own 5 1 A q.length c (bv (ref q)) :: F
end Go.Proofs.YtpamjobiohbibaaGreat
namespace Go.Proofs.YtpamjobiohbibaaGreat
open Go.RowKit
set_option linter.unusedVariables false
set_option maxRecDepth 20000
variable {B : Nat} {w0 : World} {F : List Ch} {A A1 A2 : Option Addr} {n c c1 c2 g : Nat}
/-! width -/
def blN (x : Nat) : Nat := if x = 0 then 0 else Nat.log2 x + 1
def lenTab : List UInt8 := (List.range 256).map fun i => UInt8.ofNat (blN i)
theorem tab_get (y : Nat) (h : y < 256) : (lenTab.getD y 0).toNat = blN y := by
  have : ∀ i : Fin 256, (lenTab.getD i.val 0).toNat = blN i.val := by decide +kernel
  exact this ⟨y, h⟩
theorem blN_256 {x : Nat} (h : 256 ≤ x) : blN x = 8 + blN (x / 256) := by
  unfold blN
  rw [if_neg (by omega), if_neg (by omega)]
  have h0 : x / 256 ≠ 0 := by omega
  have e : Nat.log2 x = 8 + Nat.log2 (x / 256) := by
    apply Nat.le_antisymm
    · have h1 := Nat.lt_log2_self (n := x / 256)
      have h2 : x < 2 ^ (8 + Nat.log2 (x / 256) + 1) := by
        rw [show 8 + Nat.log2 (x / 256) + 1 = 8 + (Nat.log2 (x / 256) + 1) by omega, Nat.pow_add]
        omega
      have := (Nat.log2_lt (by omega)).2 h2
      omega
    · refine (Nat.le_log2 (by omega)).2 ?_
      have := Nat.log2_self_le h0
      rw [Nat.pow_add]
      omega
  omega
theorem det_at_const {C : Cx} {fr : Fr} {L : List Ch} {x y : Operand} {t ty : TypeId} {k : IntKind} {m : Int} {s s' : List UInt8} {i : Nat} (ht : C.P.underlying t = some .string) (h : ev fr x = some (.string ⟨s.toArray⟩)) (hs : s = s') (h2 : ev fr y = some (.int k m)) (hm : m = (i : Int)) (hi : i < s'.length) : Det C fr L (.index t x y) ty (.int .u8 ((s'.getD i 0).toNat : Int)) := by
  subst hs; exact det_at_str ht h h2 hm hi
theorem shr8 (y : Nat) : (y : Int).fdiv (2 ^ min (8 : Int).toNat IntKind.u64.bits) = ((y / 256 : Nat) : Int) := by
  have e : min (8 : Int).toNat IntKind.u64.bits = 8 := by decide
  rw [e, Int.fdiv_eq_ediv_of_nonneg _ (by decide)]
  rfl
theorem len64_d (x : Nat) (hx : x < 65536) : Does Tryz.prog B w0 75 [.int .u64 x] F (fun r L => r = .int .i64 (blN x) ∧ L = F) := by
  refine fn_walk Tryz.func75 25 rfl rfl rfl [(0, .int .u64 x)] ⟨⟨rfl, rfl⟩, trivial⟩ ?_
  refine vc_seq ?_
  refine vc_region ?_
  refine vl_det (det_assign rfl) rfl ?_
  refine vl_end [(0, _), (2, _)] ⟨rfl, rfl, trivial⟩ ?_
  refine then_next ?_
  refine vc_seq ?_
  refine vc_seq ?_
  refine vc_region ?_
  refine vl_det (det_move rfl) rfl ?_
  refine vl_det (det_geq rfl rfl) rfl ?_
  refine vl_end [(0, _), (2, _), (4, _)] ⟨rfl, rfl, rfl, trivial⟩ ?_
  refine then_next ?_
  refine vc_decideU rfl (fun h4 => ?_) (fun h4 => ?_)
  · skip
    exfalso; omega
  · skip
    refine vc_skip ?_
    refine then_next ?_
    refine vc_seq ?_
    refine vc_seq ?_
    refine vc_region ?_
    refine vl_det (det_move rfl) rfl ?_
    refine vl_det (det_geq rfl rfl) rfl ?_
    refine vl_end [(0, _), (2, _), (8, _)] ⟨rfl, rfl, rfl, trivial⟩ ?_
    refine then_next ?_
    refine vc_decideU rfl (fun h8 => ?_) (fun h8 => ?_)
    · skip
      exfalso; omega
    · skip
      refine vc_skip ?_
      refine then_next ?_
      refine vc_seqJ (fun zf zL => ∃ (y m : Nat), (y < 256 ∧ m ≤ 8 ∧ blN x = m + blN y) ∧ Sub zf [(0, .int .u64 y), (2, .int .i64 m)] ∧ Wk zL (F)) ?_ ?_
      · skip
        refine vc_seq ?_
        refine vc_region ?_
        refine vl_det (det_move rfl) rfl ?_
        refine vl_det (det_geq rfl rfl) rfl ?_
        refine vl_end [(0, _), (2, _), (14, _)] ⟨rfl, rfl, rfl, trivial⟩ ?_
        refine then_next ?_
        refine vc_decideU rfl (fun h14 => ?_) (fun h14 => ?_)
        · skip
          refine vc_seq ?_
          refine vc_region ?_
          refine vl_det (det_move rfl) rfl ?_
          refine vl_det (det_shr rfl rfl (by omega) (shr8 x)) rfl ?_
          refine vl_det (det_assign rfl) rfl ?_
          refine vl_end [(0, _), (2, _)] ⟨rfl, rfl, trivial⟩ ?_
          refine then_next ?_
          refine vc_region ?_
          refine vl_det (det_move rfl) rfl ?_
          refine vl_det (det_add rfl rfl (w_i64 (by omega) (by omega))) rfl ?_
          refine vl_det (det_assign rfl) rfl ?_
          refine vl_end [(0, _), (2, _)] ⟨rfl, rfl, trivial⟩ ?_
          exact in_join ⟨x / 256, 8, ⟨by omega, by omega, blN_256 (by omega)⟩, ⟨(by first | rfl | exact int_to (by omega) | exact sl_to (by omega)), (by first | rfl | exact int_to (by omega) | exact sl_to (by omega)), trivial⟩, .refl _⟩
        · skip
          refine vc_skip ?_
          exact in_join ⟨x, 0, ⟨by omega, by omega, by omega⟩, ⟨(by first | rfl | exact int_to (by omega) | exact sl_to (by omega)), (by first | rfl | exact int_to (by omega) | exact sl_to (by omega)), trivial⟩, .refl _⟩
      · rintro _ _ ⟨y, m, ⟨hy, hm, hbl⟩, hs, hp⟩
        refine vc_weaken _ hs (vc_wk hp ?_)
        clear hs hp
        refine vc_seq ?_
        refine vc_region ?_
        refine vl_det (det_move rfl) rfl ?_
        refine vl_det (det_move rfl) rfl ?_
        refine vl_det (det_conv Tryz.underlying39 Tryz.underlying5 rfl (w_u8 (by omega) (by omega))) rfl ?_
        refine vl_det (det_at_const (s' := lenTab) Tryz.underlying9 rfl (by decide +kernel) rfl rfl (by simp [lenTab]; omega)) rfl ?_
        rw [tab_get y hy]
        have hb9 : blN y ≤ 8 := by
          have : ∀ i : Fin 256, blN i.val ≤ 8 := by decide +kernel
          exact this ⟨y, hy⟩
        refine vl_det (det_conv Tryz.underlying5 Tryz.underlying3 rfl (w_i64 (by omega) (by omega))) rfl ?_
        refine vl_det (det_add rfl rfl (w_i64 (by omega) (by omega))) rfl ?_
        refine vl_det (det_assign rfl) rfl ?_
        refine vl_end [(2, _)] ⟨rfl, trivial⟩ ?_
        refine then_next ?_
        refine vc_ret ?_
        refine ret1 rfl rfl ?_
        exact ⟨congrArg (fun (z : Int) => Value.int .i64 z) (by omega), rfl⟩
theorem len_d (x : Nat) (hx : x < 65536) : Does Tryz.prog B w0 58 [.int .u64 x] F (fun r L => r = .int .i64 (blN x) ∧ L = F) := by
  refine fn_walk Tryz.func58 8 rfl rfl rfl [(0, .int .u64 x)] ⟨⟨rfl, rfl⟩, trivial⟩ ?_
  refine vc_seq ?_
  refine vc_region ?_
  refine vl_det (det_assign rfl) rfl ?_
  refine vl_end [(0, _)] ⟨rfl, trivial⟩ ?_
  refine then_next ?_
  refine vc_seq ?_
  refine vc_cond_f rfl ?_
  refine vc_skip ?_
  refine then_next ?_
  refine vc_seq ?_
  refine vc_region ?_
  refine vl_det (det_move rfl) rfl ?_
  refine vl_call co75 rfl (len64_d x hx) rfl ?_
  rintro _ _ ⟨rfl, hLL⟩
  obtain rfl := hLL.symm
  refine vl_det (det_assign rfl) rfl ?_
  refine vl_end [(2, _)] ⟨rfl, trivial⟩ ?_
  refine then_next ?_
  refine vc_ret ?_
  refine ret1 rfl rfl ?_
  exact ⟨rfl, rfl⟩
theorem width_d (b m : Nat) (hb : b ≤ 20000) (hm : 1 ≤ m) (hmb : m ≤ b) : Does Tryz.prog B w0 31 [.int .i64 b, .int .i64 m] F (fun r L => r = .int .i64 (wid b m) ∧ L = F) := by
  have hq : b / m ≤ 20000 := Nat.le_trans (Nat.div_le_self _ _) hb
  have hq1 : 1 ≤ b / m := (Nat.le_div_iff_mul_le (by omega)).2 (by omega)
  have hw : (wid b m : Int) = (blN (b / m) : Int) - 1 := by unfold wid blN; rw [if_neg (by omega)]; omega
  have hqq : IntKind.i64.wrap ((b : Int).tdiv (m : Int)) = ((b / m : Nat) : Int) := by
    have e : (b : Int).tdiv (m : Int) = ((b / m : Nat) : Int) := (Int.ofNat_tdiv b m).symm
    rw [e]
    generalize b / m = x at hq
    exact wrap_i64 _ (by omega) (by omega)
  generalize hz : b / m = q at *
  refine fn_walk Tryz.func31 11 rfl rfl rfl [(0, .int .i64 b), (1, .int .i64 m)] ⟨⟨rfl, rfl⟩, ⟨rfl, rfl⟩, trivial⟩ ?_
  refine vc_seq ?_
  refine vc_region ?_
  refine vl_det (det_assign rfl) rfl ?_
  refine vl_end [(0, _), (1, _)] ⟨rfl, rfl, trivial⟩ ?_
  refine then_next ?_
  refine vc_seq ?_
  refine vc_region ?_
  refine vl_det (det_move rfl) rfl ?_
  refine vl_det (det_move rfl) rfl ?_
  refine vl_det (det_quo rfl rfl (by omega) hqq) rfl ?_
  refine vl_det (det_conv Tryz.underlying3 Tryz.underlying103 rfl (w_u64 (by omega) (by omega))) rfl ?_
  refine vl_call co58 rfl (len_d q (by omega)) rfl ?_
  rintro _ _ ⟨rfl, hLL⟩
  obtain rfl := hLL.symm
  have hbl : blN q ≤ 17 := by
    unfold blN
    split
    · omega
    · have := (Nat.log2_lt (n := q) (k := 16) (by omega)).2 (by omega)
      omega
  refine vl_det (det_sub rfl rfl (w_i64 (by omega) (by omega))) rfl ?_
  refine vl_det (det_assign rfl) rfl ?_
  refine vl_end [(4, _)] ⟨rfl, trivial⟩ ?_
  refine then_next ?_
  refine vc_ret ?_
  refine ret1 rfl rfl ?_
  exact ⟨by rw [hw], rfl⟩
theorem risC_was {bound : Int} {ids : List Int} {k : Nat} {was : Int} (hw : was = if k = 0 then -1 else ids.getD (k - 1) 0) (hp : ∀ i, i < k → risC bound ids i) : risC bound ids k ↔ was < ids.getD k 0 ∧ ids.getD k 0 < bound := by
  by_cases h0 : k = 0
  · subst h0
    rw [if_pos rfl] at hw
    subst hw
    unfold risC
    exact ⟨fun h => ⟨by omega, h.2.1⟩, fun h => ⟨by omega, h.2, fun h => absurd h (by omega)⟩⟩
  · rw [if_neg h0] at hw
    subst hw
    have := (hp (k - 1) (by omega)).1
    unfold risC
    exact ⟨fun h => ⟨h.2.2 (by omega), h.2.1⟩, fun h => ⟨by omega, h.2, fun _ => h.1⟩⟩
theorem rises_d (bound : Int) (ids : List Int) (hb : Bor B w0 F 1 (.slice A ids.length c) ids.length (ints .i64 ids)) (hl : ids.length ≤ 9000000000000000000) :
    Does Tryz.prog B w0 30 [.int .i64 bound, .slice A ids.length c] F (fun r L => r = .bool (decide (Ris bound ids)) ∧ L = F) := by
  refine fn_walk Tryz.func30 24 rfl rfl rfl [(0, .int .i64 bound), (1, .slice A ids.length c)] ⟨⟨rfl, rfl⟩, ⟨rfl, rfl⟩, trivial⟩ ?_
  refine vc_seq ?_
  refine vc_region ?_
  refine vl_det (det_assign rfl) rfl ?_
  refine vl_end [(0, _), (1, _)] ⟨rfl, rfl, trivial⟩ ?_
  refine then_next ?_
  refine vc_seq ?_
  refine vc_region ?_
  refine vl_det (det_assign rfl) rfl ?_
  refine vl_end [(0, _), (1, _), (5, _)] ⟨rfl, rfl, rfl, trivial⟩ ?_
  refine then_next ?_
  refine vc_seq ?_
  refine vc_seq ?_
  refine vc_region ?_
  refine vl_det (det_move rfl) rfl ?_
  refine vl_det (det_len_sl Tryz.underlying42 rfl) rfl ?_
  refine vl_det (det_move rfl) rfl ?_
  refine vl_end [(0, _), (5, _), (8, _), (9, _), (10, _)] ⟨rfl, rfl, rfl, rfl, rfl, trivial⟩ ?_
  refine then_next ?_
  refine vc_block ?_
  refine vc_loopJ (fun zf zL zm => ∃ (k : Nat) (was : Int), (k ≤ ids.length ∧ was = (if k = 0 then -1 else ids.getD (k - 1) 0) ∧ ∀ i, i < k → risC bound ids i) ∧ ids.length - k = zm ∧ Sub zf [(0, .int .i64 bound), (5, .int .i64 was), (8, .slice A ids.length c), (9, .int .i64 ids.length), (10, .int .i64 k)] ∧ Wk zL (F)) _ ⟨0, -1, ⟨Nat.zero_le _, rfl, fun i h => absurd h (by omega)⟩, rfl, ⟨(by first | rfl | exact int_to (by omega) | exact sl_to (by omega)), (by first | rfl | exact int_to (by omega) | exact sl_to (by omega)), (by first | rfl | exact int_to (by omega) | exact sl_to (by omega)), (by first | rfl | exact int_to (by omega) | exact sl_to (by omega)), (by first | rfl | exact int_to (by omega) | exact sl_to (by omega)), trivial⟩, .refl _⟩ ?_
  rintro _ _ _ ⟨k, was, ⟨hk, hwas, hall⟩, rfl, hs, hp⟩
  refine vc_weaken _ hs (vc_wk hp ?_)
  clear hs hp
  have hcw := risC_was hwas hall
  refine vc_seq ?_
  refine vc_region ?_
  refine vl_det (det_lss rfl rfl) rfl ?_
  refine vl_end [(0, _), (5, _), (8, _), (9, _), (10, _), (11, _)] ⟨rfl, rfl, rfl, rfl, rfl, rfl, trivial⟩ ?_
  refine then_next ?_
  refine vc_seq ?_
  refine vc_decideU rfl (fun h11 => ?_) (fun h11 => ?_)
  · skip
    refine vc_skip ?_
    refine then_next ?_
    refine vc_seq ?_
    refine vc_block ?_
    refine vc_seq ?_
    refine vc_region ?_
    refine vl_det (det_indexAddr (size := 1) Tryz.underlying42 (by kernel_rfl) rfl rfl rfl (by omega) (by first | (exact Bor.own (by repeat (first | exact List.Mem.head _ | apply List.Mem.tail))) | (repeat (first | assumption | apply Bor.cons)))) rfl ?_
    refine vl_det (det_load_int (by kernel_rfl) rfl (by first | (exact Bor.own (by repeat (first | exact List.Mem.head _ | apply List.Mem.tail))) | (repeat (first | assumption | apply Bor.cons))) (by omega)) rfl ?_
    refine vl_det (det_assign rfl) rfl ?_
    refine vl_end [(0, _), (5, _), (7, _), (8, _), (9, _), (10, _)] ⟨rfl, rfl, rfl, rfl, rfl, rfl, trivial⟩ ?_
    refine then_next ?_
    refine vc_seq ?_
    refine vc_seq ?_
    refine vc_region ?_
    refine vl_cut 8 21 [(0, _), (7, _), (8, _), (9, _), (10, _)] (ids.getD k 0 ≤ was ∨ bound ≤ ids.getD k 0) ⟨rfl, rfl, rfl, rfl, rfl, trivial⟩ ?_ ?_
    · skip
      refine vl_det (det_move rfl) rfl ?_
      refine vl_det (det_move rfl) rfl ?_
      refine vl_det (det_leq rfl rfl) rfl ?_
      refine vl_det (det_move rfl) rfl ?_
      refine vl_guardn rfl rfl rfl (fun h17 => ?_) (fun h17 => ?_)
      · skip
        refine vl_det (det_move rfl) rfl ?_
        refine vl_guard_t rfl rfl ?_
        refine vl_det (det_move rfl) rfl ?_
        refine vl_guard_t rfl rfl ?_
        refine vl_det (det_geq rfl rfl) rfl ?_
        refine vl_det (det_pick_f rfl rfl) rfl ?_
        exact vl_cut_end ⟨rfl, rfl, rfl, rfl, rfl, trivial⟩ (by first | rfl | exact bool_to_t (by first | omega | simp_all) | exact bool_to_f (by first | omega | simp_all) | exact bool_to (by first | omega | simp_all) | exact bool_to_b (by first | omega | simp_all))
      · skip
        refine vl_guard_f rfl rfl rfl rfl ?_
        refine vl_guard_f rfl rfl rfl rfl ?_
        refine vl_det (det_pick_t rfl rfl) rfl ?_
        exact vl_cut_end ⟨rfl, rfl, rfl, rfl, rfl, trivial⟩ (by first | rfl | exact bool_to_t (by first | omega | simp_all) | exact bool_to_f (by first | omega | simp_all) | exact bool_to (by first | omega | simp_all) | exact bool_to_b (by first | omega | simp_all))
    · skip
      refine vl_end [(0, _), (7, _), (8, _), (9, _), (10, _), (21, _)] ⟨rfl, rfl, rfl, rfl, rfl, rfl, trivial⟩ ?_
      refine then_next ?_
      refine vc_decideU rfl (fun h21 => ?_) (fun h21 => ?_)
      · skip
        refine vc_seq ?_
        refine vc_region ?_
        refine vl_det (det_assign rfl) rfl ?_
        refine vl_end [(4, _)] ⟨rfl, trivial⟩ ?_
        refine then_next ?_
        refine vc_ret ?_
        refine then_ret ?_
        refine in_ret ?_
        refine then_ret ?_
        refine loop_ret ?_
        refine in_ret ?_
        refine then_ret ?_
        refine ret1 rfl rfl ?_
        exact ⟨by rw [decide_eq_false (fun h => by have := hcw.1 (h k (by omega)); omega)], rfl⟩
      · skip
        refine vc_skip ?_
        refine then_next ?_
        refine vc_region ?_
        refine vl_det (det_move rfl) rfl ?_
        refine vl_det (det_assign rfl) rfl ?_
        refine vl_end [(0, _), (5, _), (8, _), (9, _), (10, _)] ⟨rfl, rfl, rfl, rfl, rfl, trivial⟩ ?_
        refine in_normal ?_
        refine then_next ?_
        refine vc_region ?_
        refine vl_det (det_add rfl rfl (w_i64 (by omega) (by omega))) rfl ?_
        refine vl_det (det_move rfl) rfl ?_
        refine vl_end [(0, _), (5, _), (8, _), (9, _), (10, _)] ⟨rfl, rfl, rfl, rfl, rfl, trivial⟩ ?_
        refine in_loop_ ⟨_, by omega, k + 1, ids.getD k 0, ⟨by omega, by rw [if_neg (by omega), Nat.add_sub_cancel], fun i h => by rcases Nat.lt_succ_iff_lt_or_eq.1 h with h | h; exact hall i h; subst h; exact hcw.2 (by omega)⟩, rfl, ⟨(by first | rfl | exact int_to (by omega) | exact sl_to (by omega)), (by first | rfl | exact int_to (by omega) | exact sl_to (by omega)), (by first | rfl | exact int_to (by omega) | exact sl_to (by omega)), (by first | rfl | exact int_to (by omega) | exact sl_to (by omega)), (by first | rfl | exact int_to (by omega) | exact sl_to (by omega)), trivial⟩, .refl _⟩
  · skip
    refine vc_exit ?_
    refine then_exit ?_
    refine loop_exit ?_
    refine in_eq ?_
    refine then_next ?_
    refine vc_seq ?_
    refine vc_region ?_
    refine vl_det (det_assign rfl) rfl ?_
    refine vl_end [(4, _)] ⟨rfl, trivial⟩ ?_
    refine then_next ?_
    refine vc_ret ?_
    refine ret1 rfl rfl ?_
    exact ⟨by rw [decide_eq_true (show Ris bound ids from fun i hi => hall i (by omega))], rfl⟩
theorem may_d (bound : Int) (ids : List Int) (hb : Bor B w0 F 1 (.slice A ids.length c) ids.length (ints .i64 ids)) (hl : ids.length ≤ 9000000000000000000) :
    Does Tryz.prog B w0 22 [.int .i64 bound, .slice A ids.length c] F (fun r L => r = .bool (decide (Ris bound ids)) ∧ L = F) := by
  refine fn_walk Tryz.func22 41 rfl rfl rfl [(0, .int .i64 bound), (1, .slice A ids.length c)] ⟨⟨rfl, rfl⟩, ⟨rfl, rfl⟩, trivial⟩ ?_
  refine vc_seq ?_
  refine vc_region ?_
  refine vl_det (det_assign rfl) rfl ?_
  refine vl_end [(0, _), (1, _)] ⟨rfl, rfl, trivial⟩ ?_
  refine then_next ?_
  refine vc_seq ?_
  refine vc_seq ?_
  refine vc_region ?_
  refine vl_det (det_assign rfl) rfl ?_
  refine vl_end [(0, _), (1, _), (5, _)] ⟨rfl, rfl, rfl, trivial⟩ ?_
  refine then_next ?_
  refine vc_block ?_
  refine vc_loopJ (fun zf zL zm => ∃ (k : Nat), (k ≤ ids.length ∧ ∀ i, i < k → risC bound ids i) ∧ ids.length - k = zm ∧ Sub zf [(0, .int .i64 bound), (1, .slice A ids.length c), (5, .int .i64 k)] ∧ Wk zL (F)) _ ⟨0, ⟨Nat.zero_le _, fun i h => absurd h (by omega)⟩, rfl, ⟨(by first | rfl | exact int_to (by omega) | exact sl_to (by omega)), (by first | rfl | exact int_to (by omega) | exact sl_to (by omega)), (by first | rfl | exact int_to (by omega) | exact sl_to (by omega)), trivial⟩, .refl _⟩ ?_
  rintro _ _ _ ⟨k, ⟨hk, hall⟩, rfl, hs, hp⟩
  refine vc_weaken _ hs (vc_wk hp ?_)
  clear hs hp
  refine vc_seq ?_
  refine vc_seq ?_
  refine vc_region ?_
  refine vl_det (det_move rfl) rfl ?_
  refine vl_det (det_move rfl) rfl ?_
  refine vl_det (det_len_sl Tryz.underlying42 rfl) rfl ?_
  refine vl_det (det_lss rfl rfl) rfl ?_
  refine vl_end [(0, _), (1, _), (5, _), (9, _)] ⟨rfl, rfl, rfl, rfl, trivial⟩ ?_
  refine then_next ?_
  refine vc_decideU rfl (fun h9 => ?_) (fun h9 => ?_)
  · skip
    refine vc_skip ?_
    refine then_next ?_
    refine vc_seq ?_
    refine vc_block ?_
    refine vc_seq ?_
    refine vq_region (by kernel_rfl) (by kernel_rfl) ?_
    refine vq_cut 29 40 [(0, _), (1, _), (5, _)] ((ids.getD k 0 < 0 ∨ bound ≤ ids.getD k 0) ∨ (0 : Int) < k ∧ ids.getD k 0 ≤ ids.getD (k - 1) 0) ⟨rfl, rfl, rfl, trivial⟩ ?_ ?_
    · skip
      refine vq_det (det_move rfl) rfl ?_
      refine vq_det (det_move rfl) rfl ?_
      refine vq_det (det_indexAddr (size := 1) Tryz.underlying42 (by kernel_rfl) rfl rfl rfl (by omega) (by first | (exact Bor.own (by repeat (first | exact List.Mem.head _ | apply List.Mem.tail))) | (repeat (first | assumption | apply Bor.cons)))) rfl ?_
      refine vq_det (det_load_int (by kernel_rfl) rfl (by first | (exact Bor.own (by repeat (first | exact List.Mem.head _ | apply List.Mem.tail))) | (repeat (first | assumption | apply Bor.cons))) (by omega)) rfl ?_
      refine vq_det (det_lss rfl rfl) rfl ?_
      refine vq_det (det_move rfl) rfl ?_
      refine vq_guardn rfl rfl rfl (fun h17 => ?_) (fun h17 => ?_)
      · skip
        refine vq_det (det_move rfl) rfl ?_
        refine vq_guard_t rfl rfl ?_
        refine vq_det (det_move rfl) rfl ?_
        refine vq_guard_t rfl rfl ?_
        refine vq_det (det_indexAddr (size := 1) Tryz.underlying42 (by kernel_rfl) rfl rfl rfl (by omega) (by first | (exact Bor.own (by repeat (first | exact List.Mem.head _ | apply List.Mem.tail))) | (repeat (first | assumption | apply Bor.cons)))) rfl ?_
        refine vq_guard_t rfl rfl ?_
        refine vq_det (det_load_int (by kernel_rfl) rfl (by first | (exact Bor.own (by repeat (first | exact List.Mem.head _ | apply List.Mem.tail))) | (repeat (first | assumption | apply Bor.cons))) (by omega)) rfl ?_
        refine vq_guard_t rfl rfl ?_
        refine vq_det (det_move rfl) rfl ?_
        refine vq_guard_t rfl rfl ?_
        refine vq_det (det_geq rfl rfl) rfl ?_
        refine vq_det (det_pick_f rfl rfl) rfl ?_
        refine vq_det (det_move rfl) rfl ?_
        refine vq_guardn rfl rfl rfl (fun h25 => ?_) (fun h25 => ?_)
        · skip
          refine vq_det (det_move rfl) rfl ?_
          refine vq_guard_t rfl rfl ?_
          refine vq_det (det_gtr rfl rfl) rfl ?_
          refine vq_guard_t rfl rfl ?_
          refine vq_det (det_move rfl) rfl ?_
          refine vq_guardp rfl rfl rfl (fun h28 => ?_) (fun h28 => ?_)
          · skip
            refine vq_det (det_move rfl) rfl ?_
            refine vq_guard_t rfl rfl ?_
            refine vq_det (det_move rfl) rfl ?_
            refine vq_guard_t rfl rfl ?_
            refine vq_det (det_indexAddr (size := 1) Tryz.underlying42 (by kernel_rfl) rfl rfl rfl (by omega) (by first | (exact Bor.own (by repeat (first | exact List.Mem.head _ | apply List.Mem.tail))) | (repeat (first | assumption | apply Bor.cons)))) rfl ?_
            refine vq_guard_t rfl rfl ?_
            refine vq_det (det_load_int (by kernel_rfl) rfl (by first | (exact Bor.own (by repeat (first | exact List.Mem.head _ | apply List.Mem.tail))) | (repeat (first | assumption | apply Bor.cons))) (by omega)) rfl ?_
            refine vq_guard_t rfl rfl ?_
            refine vq_det (det_move rfl) rfl ?_
            refine vq_guard_t rfl rfl ?_
            refine vq_det (det_move rfl) rfl ?_
            refine vq_guard_t rfl rfl ?_
            refine vq_det (det_sub rfl rfl (r := ((k - 1 : Nat) : Int)) ((w_i64 (by omega) (by omega)).trans (by omega))) rfl ?_
            refine vq_guard_t rfl rfl ?_
            refine vq_det (det_indexAddr (size := 1) Tryz.underlying42 (by kernel_rfl) rfl rfl rfl (by omega) (by first | (exact Bor.own (by repeat (first | exact List.Mem.head _ | apply List.Mem.tail))) | (repeat (first | assumption | apply Bor.cons)))) rfl ?_
            refine vq_guard_t rfl rfl ?_
            refine vq_det (det_load_int (by kernel_rfl) rfl (by first | (exact Bor.own (by repeat (first | exact List.Mem.head _ | apply List.Mem.tail))) | (repeat (first | assumption | apply Bor.cons))) (by omega)) rfl ?_
            refine vq_guard_t rfl rfl ?_
            refine vq_det (det_leq rfl rfl) rfl ?_
            refine vq_guard_t rfl rfl ?_
            refine vq_det (det_pick_t rfl rfl) rfl ?_
            refine vq_det (det_pick_f rfl rfl) rfl ?_
            exact vq_cut_end ⟨rfl, rfl, rfl, trivial⟩ (by first | rfl | exact bool_to_t (by first | omega | simp_all) | exact bool_to_f (by first | omega | simp_all) | exact bool_to (by first | omega | simp_all) | exact bool_to_b (by first | omega | simp_all))
          · skip
            refine vq_guard_f rfl rfl rfl rfl ?_
            refine vq_guard_f rfl rfl rfl rfl ?_
            refine vq_guard_f rfl rfl rfl rfl ?_
            refine vq_guard_f rfl rfl rfl rfl ?_
            refine vq_guard_f rfl rfl rfl rfl ?_
            refine vq_guard_f rfl rfl rfl rfl ?_
            refine vq_guard_f rfl rfl rfl rfl ?_
            refine vq_guard_f rfl rfl rfl rfl ?_
            refine vq_guard_f rfl rfl rfl rfl ?_
            refine vq_guard_t rfl rfl ?_
            refine vq_det (det_pick_f rfl rfl) rfl ?_
            refine vq_det (det_pick_f rfl rfl) rfl ?_
            exact vq_cut_end ⟨rfl, rfl, rfl, trivial⟩ (by first | rfl | exact bool_to_t (by first | omega | simp_all) | exact bool_to_f (by first | omega | simp_all) | exact bool_to (by first | omega | simp_all) | exact bool_to_b (by first | omega | simp_all))
        · skip
          refine vq_guard_f rfl rfl rfl rfl ?_
          refine vq_guard_f rfl rfl rfl rfl ?_
          refine vq_guard_u rfl rfl rfl ?_
          refine vq_guard_u rfl rfl rfl ?_
          refine vq_guard_u rfl rfl rfl ?_
          refine vq_guard_u rfl rfl rfl ?_
          refine vq_guard_u rfl rfl rfl ?_
          refine vq_guard_u rfl rfl rfl ?_
          refine vq_guard_u rfl rfl rfl ?_
          refine vq_guard_u rfl rfl rfl ?_
          refine vq_guard_u rfl rfl rfl ?_
          refine vq_guard_u rfl rfl rfl ?_
          refine vq_guard_f rfl rfl rfl rfl ?_
          refine vq_det (det_pick_t rfl rfl) rfl ?_
          exact vq_cut_end ⟨rfl, rfl, rfl, trivial⟩ (by first | rfl | exact bool_to_t (by first | omega | simp_all) | exact bool_to_f (by first | omega | simp_all) | exact bool_to (by first | omega | simp_all) | exact bool_to_b (by first | omega | simp_all))
      · skip
        refine vq_guard_f rfl rfl rfl rfl ?_
        refine vq_guard_f rfl rfl rfl rfl ?_
        refine vq_guard_f rfl rfl rfl rfl ?_
        refine vq_guard_f rfl rfl rfl rfl ?_
        refine vq_guard_f rfl rfl rfl rfl ?_
        refine vq_det (det_pick_t rfl rfl) rfl ?_
        refine vq_det (det_move rfl) rfl ?_
        refine vq_guard_f rfl rfl rfl rfl ?_
        refine vq_guard_f rfl rfl rfl rfl ?_
        refine vq_guard_f rfl rfl rfl rfl ?_
        refine vq_guard_u rfl rfl rfl ?_
        refine vq_guard_u rfl rfl rfl ?_
        refine vq_guard_u rfl rfl rfl ?_
        refine vq_guard_u rfl rfl rfl ?_
        refine vq_guard_u rfl rfl rfl ?_
        refine vq_guard_u rfl rfl rfl ?_
        refine vq_guard_u rfl rfl rfl ?_
        refine vq_guard_u rfl rfl rfl ?_
        refine vq_guard_u rfl rfl rfl ?_
        refine vq_guard_u rfl rfl rfl ?_
        refine vq_guard_f rfl rfl rfl rfl ?_
        refine vq_det (det_pick_t rfl rfl) rfl ?_
        exact vq_cut_end ⟨rfl, rfl, rfl, trivial⟩ (by first | rfl | exact bool_to_t (by first | omega | simp_all) | exact bool_to_f (by first | omega | simp_all) | exact bool_to (by first | omega | simp_all) | exact bool_to_b (by first | omega | simp_all))
    · skip
      refine vq_end [(0, _), (1, _), (5, _), (40, _)] ⟨rfl, rfl, rfl, rfl, trivial⟩ ?_
      refine then_next ?_
      refine vc_decideU rfl (fun h40 => ?_) (fun h40 => ?_)
      · skip
        refine vc_seq ?_
        refine vc_region ?_
        refine vl_det (det_assign rfl) rfl ?_
        refine vl_end [(4, _)] ⟨rfl, trivial⟩ ?_
        refine then_next ?_
        refine vc_ret ?_
        refine in_ret ?_
        refine then_ret ?_
        refine loop_ret ?_
        refine in_ret ?_
        refine then_ret ?_
        refine ret1 rfl rfl ?_
        exact ⟨by rw [decide_eq_false (fun h => by have := h k (by omega); unfold risC at this; omega)], rfl⟩
      · skip
        refine vc_skip ?_
        refine in_normal ?_
        refine then_next ?_
        refine vc_region ?_
        refine vl_det (det_move rfl) rfl ?_
        refine vl_det (det_add rfl rfl (w_i64 (by omega) (by omega))) rfl ?_
        refine vl_det (det_assign rfl) rfl ?_
        refine vl_end [(0, _), (1, _), (5, _)] ⟨rfl, rfl, rfl, trivial⟩ ?_
        refine in_loop_ ⟨_, by omega, k + 1, ⟨by omega, fun i h => by rcases Nat.lt_succ_iff_lt_or_eq.1 h with h | h; exact hall i h; subst h; unfold risC; exact ⟨by omega, by omega, fun _ => by omega⟩⟩, rfl, ⟨(by first | rfl | exact int_to (by omega) | exact sl_to (by omega)), (by first | rfl | exact int_to (by omega) | exact sl_to (by omega)), (by first | rfl | exact int_to (by omega) | exact sl_to (by omega)), trivial⟩, .refl _⟩
  · skip
    refine vc_exit ?_
    refine then_exit ?_
    refine loop_exit ?_
    refine in_eq ?_
    refine then_next ?_
    refine vc_seq ?_
    refine vc_region ?_
    refine vl_det (det_assign rfl) rfl ?_
    refine vl_end [(4, _)] ⟨rfl, trivial⟩ ?_
    refine then_next ?_
    refine vc_ret ?_
    refine ret1 rfl rfl ?_
    exact ⟨by rw [decide_eq_true (show Ris bound ids from fun i hi => hall i (by omega))], rfl⟩
/-! parts -/
abbrev Pt (g : Nat) (bt : TypeId) (w p : Nat) (A1 : Option Addr) (c1 : Nat) (A2 : Option Addr) (c2 : Nat) (xs : List Nat) (F : List Ch) : List Ch := .blk g bt [.int .i64 w, .slice A1 xs.length c1, .slice A2 xs.length c2] :: .own 3 1 A1 xs.length c1 (natv (xs.map (· / p))) :: .own 79 1 A2 xs.length c2 (u16v (xs.map (· % p))) :: F
theorem shrP {x w p : Nat} (hp : p = 2 ^ w) (hw : w ≤ 14) : (x : Int).fdiv (2 ^ min (w : Int).toNat IntKind.i64.bits) = ((x / p : Nat) : Int) := by
  have e : min (w : Int).toNat IntKind.i64.bits = w := by
    rw [Int.toNat_natCast]; exact Nat.min_eq_left (show w ≤ 64 by omega)
  rw [e, hp, Int.fdiv_eq_ediv_of_nonneg _ (Int.le_of_lt (Int.pow_pos (by decide))), Int.natCast_ediv]
  congr 1
theorem shlP {x w p : Nat} (hp : p = 2 ^ w) (hw : w ≤ 14) (hx : x * p ≤ 4611686018427387904) : IntKind.i64.wrap ((x : Int) * 2 ^ min (w : Int).toNat IntKind.i64.bits) = ((x * p : Nat) : Int) := by
  have e : min (w : Int).toNat IntKind.i64.bits = w := by
    rw [Int.toNat_natCast]; exact Nat.min_eq_left (show w ≤ 64 by omega)
  have e2 : (x : Int) * 2 ^ w = ((x * p : Nat) : Int) := by rw [hp, Int.natCast_mul]; congr 1
  rw [e, e2]
  exact w_i64 (by omega) (by omega)
theorem andP {x w p : Nat} (hp : p = 2 ^ w) (hx : x < 9223372036854775808) (hpb : p ≤ 16384) : IntKind.i64.wrap ((BitVec.ofInt IntKind.i64.bits (x : Int) &&& BitVec.ofInt IntKind.i64.bits ((p - 1 : Nat) : Int)).toNat : Int) = ((x % p : Nat) : Int) := by
  have h := i64_and x (p - 1) hx (by omega)
  rw [hp, Nat.and_two_pow_sub_one_eq_mod, ← hp] at h
  exact h
theorem orP {x w p : Nat} (hp : p = 2 ^ w) (hx : x < 9223372036854775808) : IntKind.i64.wrap ((BitVec.ofInt IntKind.i64.bits ((x / p * p : Nat) : Int) ||| BitVec.ofInt IntKind.i64.bits ((x % p : Nat) : Int)).toNat : Int) = (x : Int) := by
  have h1 : x / p * p ≤ x := Nat.div_mul_le_self x p
  have h2 : x % p ≤ x := Nat.mod_le x p
  have h := i64_or (x / p * p) (x % p) (by omega) (by omega)
  have e : x / p * p ||| x % p = x := by
    have hlt : x % p < 2 ^ w := by rw [← hp]; exact Nat.mod_lt _ (by rw [hp]; exact Nat.two_pow_pos w)
    rw [hp] at hlt ⊢
    rw [Nat.mul_comm, ← Nat.two_pow_add_eq_or_of_lt hlt]
    exact Nat.div_add_mod x (2 ^ w)
  rw [e] at h
  exact h
theorem padd_d (bt : TypeId) {w p : Nat} (hp : p = 2 ^ w) (hw : w ≤ 14) (xs : List Nat) (x : Nat) (hx : x ≤ 1000000) (hl : xs.length ≤ 1000000) :
    Does Tryz.prog B w0 32 [.pointer (some ⟨g, 0, none⟩), .int .i64 x] (Pt g bt w p A1 c1 A2 c2 xs F) (fun r L => r = .tuple #[] ∧ ∃ A1' c1' A2' c2', L = Pt g bt w p A1' c1' A2' c2' (xs ++ [x]) F) := by
  have hpb : p ≤ 16384 := by rw [hp]; exact pow_le14 hw
  have hp0 : 1 ≤ p := by rw [hp]; exact Nat.one_le_two_pow
  have hmod : x % p < p := Nat.mod_lt _ hp0
  refine fn_walk Tryz.func32 37 rfl rfl rfl [(0, .pointer (some ⟨g, 0, none⟩)), (1, .int .i64 x)] ⟨⟨rfl, rfl⟩, ⟨rfl, rfl⟩, trivial⟩ ?_
  refine vc_seqJ (fun zf zL => ∃ (A3 : Option Addr) (c3 : Nat), Sub zf [(0, .pointer (some ⟨g, 0, none⟩)), (1, .int .i64 x)] ∧ Wk zL (.blk g bt [.int .i64 w, .slice A3 (xs.length + 1) c3, .slice A2 xs.length c2] :: .own 3 1 A3 (xs.length + 1) c3 (natv ((xs ++ [x]).map (· / p))) :: .own 79 1 A2 xs.length c2 (u16v (xs.map (· % p))) :: F)) ?_ ?_
  · skip
    refine vh_region (S := .own 79 1 A2 xs.length c2 (u16v (xs.map (· % p))) :: F) (by kernel_rfl) (by repeat (first | exact List.Sublist.refl _ | exact List.nil_sublist _ | exact List.sublist_append_right _ _ | apply List.Sublist.cons_cons | apply List.Sublist.cons)) ?_
    refine vh_take 0 rfl (by kernel_rfl) (by kernel_rfl) (by kernel_rfl) (det_move rfl) rfl ?_
    refine vh_take 1 rfl (by kernel_rfl) (by kernel_rfl) (by kernel_rfl) (det_move rfl) rfl ?_
    refine vh_take 2 rfl (by kernel_rfl) (by kernel_rfl) (by kernel_rfl) (det_nilCheck rfl) rfl ?_
    refine vh_take 3 rfl (by kernel_rfl) (by kernel_rfl) (by kernel_rfl) (det_fieldAddr_ Tryz.underlying73 rfl (by kernel_rfl) rfl rfl) rfl ?_
    refine vh_take 5 rfl (by kernel_rfl) (by kernel_rfl) (by kernel_rfl) (det_move rfl) rfl ?_
    refine vh_take 6 rfl (by kernel_rfl) (by kernel_rfl) (by kernel_rfl) (det_move rfl) rfl ?_
    refine vh_take 7 rfl (by kernel_rfl) (by kernel_rfl) (by kernel_rfl) (det_nilCheck rfl) rfl ?_
    refine vh_take 8 rfl (by kernel_rfl) (by kernel_rfl) (by kernel_rfl) (det_fieldAddr_ Tryz.underlying73 rfl (by kernel_rfl) rfl rfl) rfl ?_
    refine vh_two 4 9 (by kernel_rfl) ?_ ?_
    · skip
      refine st_det rfl .no (det_load_blk (by kernel_rfl) rfl (by repeat (first | exact .hd | apply Sel.tl)) rfl) rfl (by repeat (first | exact List.Sublist.refl _ | exact List.nil_sublist _ | exact List.sublist_append_right _ _ | apply List.Sublist.cons_cons | apply List.Sublist.cons)) ?_
      refine vh_one 9 (by kernel_rfl) ?_
      refine st_det rfl .no (det_load_blk (by kernel_rfl) rfl (by repeat (first | exact .hd | apply Sel.tl)) rfl) rfl (by repeat (first | exact List.Sublist.refl _ | exact List.nil_sublist _ | exact List.sublist_append_right _ _ | apply List.Sublist.cons_cons | apply List.Sublist.cons)) ?_
      refine vh_take 10 rfl (by kernel_rfl) (by kernel_rfl) (by kernel_rfl) (det_shr rfl rfl (by omega) (shrP hp hw)) rfl ?_
      refine vh_one 11 (by kernel_rfl) ?_
      refine st_eff rfl .no (eff_build_lit slT42 [_] rfl rfl (by first | exact bv_one _ | exact strs_one _ | exact ints_one _ _ | (simp; done) | (simp [Value.oneCell']; done) | assumption) (by omega) (by omega)) rfl (by rintro _ _ ⟨A15, rfl, rfl⟩; exact (by repeat (first | exact List.Sublist.refl _ | exact List.nil_sublist _ | exact List.sublist_append_right _ _ | apply List.Sublist.cons_cons | apply List.Sublist.cons))) ?_
      rintro _ _ ⟨A15, rfl, rfl⟩
      refine vh_one 12 (by kernel_rfl) ?_
      refine st_eff rfl .no (eff_app slT42 rfl (by repeat (first | exact .hd | apply Sel.tl)) rfl (by first | (exact Bor.own (by repeat (first | exact List.Mem.head _ | apply List.Mem.tail))) | (repeat (first | assumption | apply Bor.cons))) (by first | exact bv_one _ | exact strs_one _ | exact ints_one _ _ | (simp; done) | (simp [Value.oneCell']; done) | assumption) (by omega) (by omega)) rfl (by rintro _ _ ⟨A16, c16, rfl, rfl⟩; exact (by repeat (first | exact List.Sublist.refl _ | exact List.nil_sublist _ | exact List.sublist_append_right _ _ | apply List.Sublist.cons_cons | apply List.Sublist.cons))) ?_
      rintro _ _ ⟨A16, c16, rfl, rfl⟩
      refine vh_take 13 rfl (by kernel_rfl) (by kernel_rfl) (by kernel_rfl) (det_nilCheck rfl) rfl ?_
      refine vh_take 14 rfl (by kernel_rfl) (by kernel_rfl) (by kernel_rfl) (det_fieldAddr_ Tryz.underlying73 rfl (by kernel_rfl) rfl rfl) rfl ?_
      refine vh_one 15 (by kernel_rfl) ?_
      refine st_eff0 rfl .no (eff_store (by kernel_rfl) rfl rfl rfl (by repeat (first | exact .hd | apply Sel.tl)) (by simp)) (by rintro _ _ rfl; exact (by repeat (first | exact List.Sublist.refl _ | exact List.nil_sublist _ | exact List.sublist_append_right _ _ | apply List.Sublist.cons_cons | apply List.Sublist.cons))) ?_
      rintro _ _ rfl
      refine vh_done [(0, _), (1, _)] ⟨rfl, rfl, trivial⟩ (by kernel_rfl) ?_
      exact in_join ⟨A16, c16, ⟨(by first | rfl | exact int_to (by omega) | exact sl_to (by omega)), (by first | rfl | exact int_to (by omega) | exact sl_to (by omega)), trivial⟩, .skip (wk_blk rfl (wk_own rfl (by simp [natv]) (.refl _)))⟩
    · skip
      refine st_det rfl .no (det_load_blk (by kernel_rfl) rfl (by repeat (first | exact .hd | apply Sel.tl)) rfl) rfl (by repeat (first | exact List.Sublist.refl _ | exact List.nil_sublist _ | exact List.sublist_append_right _ _ | apply List.Sublist.cons_cons | apply List.Sublist.cons)) ?_
      refine vh_take 10 rfl (by kernel_rfl) (by kernel_rfl) (by kernel_rfl) (det_shr rfl rfl (by omega) (shrP hp hw)) rfl ?_
      refine vh_two 4 11 (by kernel_rfl) ?_ ?_
      · skip
        refine st_det rfl .no (det_load_blk (by kernel_rfl) rfl (by repeat (first | exact .hd | apply Sel.tl)) rfl) rfl (by repeat (first | exact List.Sublist.refl _ | exact List.nil_sublist _ | exact List.sublist_append_right _ _ | apply List.Sublist.cons_cons | apply List.Sublist.cons)) ?_
        refine vh_one 11 (by kernel_rfl) ?_
        refine st_eff rfl .no (eff_build_lit slT42 [_] rfl rfl (by first | exact bv_one _ | exact strs_one _ | exact ints_one _ _ | (simp; done) | (simp [Value.oneCell']; done) | assumption) (by omega) (by omega)) rfl (by rintro _ _ ⟨A15, rfl, rfl⟩; exact (by repeat (first | exact List.Sublist.refl _ | exact List.nil_sublist _ | exact List.sublist_append_right _ _ | apply List.Sublist.cons_cons | apply List.Sublist.cons))) ?_
        rintro _ _ ⟨A15, rfl, rfl⟩
        refine vh_one 12 (by kernel_rfl) ?_
        refine st_eff rfl .no (eff_app slT42 rfl (by repeat (first | exact .hd | apply Sel.tl)) rfl (by first | (exact Bor.own (by repeat (first | exact List.Mem.head _ | apply List.Mem.tail))) | (repeat (first | assumption | apply Bor.cons))) (by first | exact bv_one _ | exact strs_one _ | exact ints_one _ _ | (simp; done) | (simp [Value.oneCell']; done) | assumption) (by omega) (by omega)) rfl (by rintro _ _ ⟨A16, c16, rfl, rfl⟩; exact (by repeat (first | exact List.Sublist.refl _ | exact List.nil_sublist _ | exact List.sublist_append_right _ _ | apply List.Sublist.cons_cons | apply List.Sublist.cons))) ?_
        rintro _ _ ⟨A16, c16, rfl, rfl⟩
        refine vh_take 13 rfl (by kernel_rfl) (by kernel_rfl) (by kernel_rfl) (det_nilCheck rfl) rfl ?_
        refine vh_take 14 rfl (by kernel_rfl) (by kernel_rfl) (by kernel_rfl) (det_fieldAddr_ Tryz.underlying73 rfl (by kernel_rfl) rfl rfl) rfl ?_
        refine vh_one 15 (by kernel_rfl) ?_
        refine st_eff0 rfl .no (eff_store (by kernel_rfl) rfl rfl rfl (by repeat (first | exact .hd | apply Sel.tl)) (by simp)) (by rintro _ _ rfl; exact (by repeat (first | exact List.Sublist.refl _ | exact List.nil_sublist _ | exact List.sublist_append_right _ _ | apply List.Sublist.cons_cons | apply List.Sublist.cons))) ?_
        rintro _ _ rfl
        refine vh_done [(0, _), (1, _)] ⟨rfl, rfl, trivial⟩ (by kernel_rfl) ?_
        exact in_join ⟨A16, c16, ⟨(by first | rfl | exact int_to (by omega) | exact sl_to (by omega)), (by first | rfl | exact int_to (by omega) | exact sl_to (by omega)), trivial⟩, .skip (wk_blk rfl (wk_own rfl (by simp [natv]) (.refl _)))⟩
      · skip
        refine st_eff rfl .no (eff_build_lit slT42 [_] rfl rfl (by first | exact bv_one _ | exact strs_one _ | exact ints_one _ _ | (simp; done) | (simp [Value.oneCell']; done) | assumption) (by omega) (by omega)) rfl (by rintro _ _ ⟨A15, rfl, rfl⟩; exact (by repeat (first | exact List.Sublist.refl _ | exact List.nil_sublist _ | exact List.sublist_append_right _ _ | apply List.Sublist.cons_cons | apply List.Sublist.cons))) ?_
        rintro _ _ ⟨A15, rfl, rfl⟩
        refine vh_one 4 (by kernel_rfl) ?_
        refine st_det rfl .no (det_load_blk (by kernel_rfl) rfl (by repeat (first | exact .hd | apply Sel.tl)) rfl) rfl (by repeat (first | exact List.Sublist.refl _ | exact List.nil_sublist _ | exact List.sublist_append_right _ _ | apply List.Sublist.cons_cons | apply List.Sublist.cons)) ?_
        refine vh_one 12 (by kernel_rfl) ?_
        refine st_eff rfl .no (eff_app slT42 rfl (by repeat (first | exact .hd | apply Sel.tl)) rfl (by first | (exact Bor.own (by repeat (first | exact List.Mem.head _ | apply List.Mem.tail))) | (repeat (first | assumption | apply Bor.cons))) (by first | exact bv_one _ | exact strs_one _ | exact ints_one _ _ | (simp; done) | (simp [Value.oneCell']; done) | assumption) (by omega) (by omega)) rfl (by rintro _ _ ⟨A16, c16, rfl, rfl⟩; exact (by repeat (first | exact List.Sublist.refl _ | exact List.nil_sublist _ | exact List.sublist_append_right _ _ | apply List.Sublist.cons_cons | apply List.Sublist.cons))) ?_
        rintro _ _ ⟨A16, c16, rfl, rfl⟩
        refine vh_take 13 rfl (by kernel_rfl) (by kernel_rfl) (by kernel_rfl) (det_nilCheck rfl) rfl ?_
        refine vh_take 14 rfl (by kernel_rfl) (by kernel_rfl) (by kernel_rfl) (det_fieldAddr_ Tryz.underlying73 rfl (by kernel_rfl) rfl rfl) rfl ?_
        refine vh_one 15 (by kernel_rfl) ?_
        refine st_eff0 rfl .no (eff_store (by kernel_rfl) rfl rfl rfl (by repeat (first | exact .hd | apply Sel.tl)) (by simp)) (by rintro _ _ rfl; exact (by repeat (first | exact List.Sublist.refl _ | exact List.nil_sublist _ | exact List.sublist_append_right _ _ | apply List.Sublist.cons_cons | apply List.Sublist.cons))) ?_
        rintro _ _ rfl
        refine vh_done [(0, _), (1, _)] ⟨rfl, rfl, trivial⟩ (by kernel_rfl) ?_
        exact in_join ⟨A16, c16, ⟨(by first | rfl | exact int_to (by omega) | exact sl_to (by omega)), (by first | rfl | exact int_to (by omega) | exact sl_to (by omega)), trivial⟩, .skip (wk_blk rfl (wk_own rfl (by simp [natv]) (.refl _)))⟩
  · rintro _ _ ⟨A3, c3, hs, hp⟩
    refine vc_weaken _ hs (vc_wk hp ?_)
    clear hs hp
    refine vh_region (S := .own 3 1 A3 (xs.length + 1) c3 (natv ((xs ++ [x]).map (· / p))) :: F) (by kernel_rfl) (by repeat (first | exact List.Sublist.refl _ | exact List.nil_sublist _ | exact List.sublist_append_right _ _ | apply List.Sublist.cons_cons | apply List.Sublist.cons)) ?_
    refine vh_take 0 rfl (by kernel_rfl) (by kernel_rfl) (by kernel_rfl) (det_move rfl) rfl ?_
    refine vh_take 1 rfl (by kernel_rfl) (by kernel_rfl) (by kernel_rfl) (det_move rfl) rfl ?_
    refine vh_take 2 rfl (by kernel_rfl) (by kernel_rfl) (by kernel_rfl) (det_nilCheck rfl) rfl ?_
    refine vh_take 3 rfl (by kernel_rfl) (by kernel_rfl) (by kernel_rfl) (det_fieldAddr_ Tryz.underlying73 rfl (by kernel_rfl) rfl rfl) rfl ?_
    refine vh_take 5 rfl (by kernel_rfl) (by kernel_rfl) (by kernel_rfl) (det_move rfl) rfl ?_
    refine vh_take 6 rfl (by kernel_rfl) (by kernel_rfl) (by kernel_rfl) (det_move rfl) rfl ?_
    refine vh_take 7 rfl (by kernel_rfl) (by kernel_rfl) (by kernel_rfl) (det_nilCheck rfl) rfl ?_
    refine vh_take 8 rfl (by kernel_rfl) (by kernel_rfl) (by kernel_rfl) (det_fieldAddr_ Tryz.underlying73 rfl (by kernel_rfl) rfl rfl) rfl ?_
    refine vh_two 4 9 (by kernel_rfl) ?_ ?_
    · skip
      refine st_det rfl .no (det_load_blk (by kernel_rfl) rfl (by repeat (first | exact .hd | apply Sel.tl)) rfl) rfl (by repeat (first | exact List.Sublist.refl _ | exact List.nil_sublist _ | exact List.sublist_append_right _ _ | apply List.Sublist.cons_cons | apply List.Sublist.cons)) ?_
      refine vh_one 9 (by kernel_rfl) ?_
      refine st_det rfl .no (det_load_blk (by kernel_rfl) rfl (by repeat (first | exact .hd | apply Sel.tl)) rfl) rfl (by repeat (first | exact List.Sublist.refl _ | exact List.nil_sublist _ | exact List.sublist_append_right _ _ | apply List.Sublist.cons_cons | apply List.Sublist.cons)) ?_
      refine vh_take 10 rfl (by kernel_rfl) (by kernel_rfl) (by kernel_rfl) (det_shl rfl rfl (by omega) ((shlP (x := 1) hp hw (by omega)).trans (by rw [Nat.one_mul]))) rfl ?_
      refine vh_take 11 rfl (by kernel_rfl) (by kernel_rfl) (by kernel_rfl) (det_sub rfl rfl (r := ((p - 1 : Nat) : Int)) ((w_i64 (by omega) (by omega)).trans (by omega))) rfl ?_
      refine vh_take 12 rfl (by kernel_rfl) (by kernel_rfl) (by kernel_rfl) (det_and rfl rfl (andP hp (by omega) hpb)) rfl ?_
      refine vh_take 13 rfl (by kernel_rfl) (by kernel_rfl) (by kernel_rfl) (det_conv Tryz.underlying3 Tryz.underlying79 rfl (w_u16 (by omega) (by omega))) rfl ?_
      refine vh_one 14 (by kernel_rfl) ?_
      refine st_eff rfl .no (eff_build_lit slT71 [_] rfl rfl (by first | exact bv_one _ | exact strs_one _ | exact ints_one _ _ | (simp; done) | (simp [Value.oneCell']; done) | assumption) (by omega) (by omega)) rfl (by rintro _ _ ⟨A33, rfl, rfl⟩; exact (by repeat (first | exact List.Sublist.refl _ | exact List.nil_sublist _ | exact List.sublist_append_right _ _ | apply List.Sublist.cons_cons | apply List.Sublist.cons))) ?_
      rintro _ _ ⟨A33, rfl, rfl⟩
      refine vh_one 15 (by kernel_rfl) ?_
      refine st_eff rfl .no (eff_app slT71 rfl (by repeat (first | exact .hd | apply Sel.tl)) rfl (by first | (exact Bor.own (by repeat (first | exact List.Mem.head _ | apply List.Mem.tail))) | (repeat (first | assumption | apply Bor.cons))) (by first | exact bv_one _ | exact strs_one _ | exact ints_one _ _ | (simp; done) | (simp [Value.oneCell']; done) | assumption) (by omega) (by omega)) rfl (by rintro _ _ ⟨A34, c34, rfl, rfl⟩; exact (by repeat (first | exact List.Sublist.refl _ | exact List.nil_sublist _ | exact List.sublist_append_right _ _ | apply List.Sublist.cons_cons | apply List.Sublist.cons))) ?_
      rintro _ _ ⟨A34, c34, rfl, rfl⟩
      refine vh_take 16 rfl (by kernel_rfl) (by kernel_rfl) (by kernel_rfl) (det_nilCheck rfl) rfl ?_
      refine vh_take 17 rfl (by kernel_rfl) (by kernel_rfl) (by kernel_rfl) (det_fieldAddr_ Tryz.underlying73 rfl (by kernel_rfl) rfl rfl) rfl ?_
      refine vh_one 18 (by kernel_rfl) ?_
      refine st_eff0 rfl .no (eff_store (by kernel_rfl) rfl rfl rfl (by repeat (first | exact .hd | apply Sel.tl)) (by simp)) (by rintro _ _ rfl; exact (by repeat (first | exact List.Sublist.refl _ | exact List.nil_sublist _ | exact List.sublist_append_right _ _ | apply List.Sublist.cons_cons | apply List.Sublist.cons))) ?_
      rintro _ _ rfl
      refine vh_done [] trivial (by kernel_rfl) ?_
      refine ret_n ?_
      have el : xs.length + 1 = (xs ++ [x]).length := by simp
      rw [el]
      refine ret_wk (L' := Pt g bt w p A3 c3 A34 c34 (xs ++ [x]) F) (.skip (.cons (.cons (wk_own rfl (by simp [u16v]) (.refl _))))) ?_
      refine ret0 rfl ?_
      exact ⟨rfl, A3, c3, A34, c34, rfl⟩
    · skip
      refine st_det rfl .no (det_load_blk (by kernel_rfl) rfl (by repeat (first | exact .hd | apply Sel.tl)) rfl) rfl (by repeat (first | exact List.Sublist.refl _ | exact List.nil_sublist _ | exact List.sublist_append_right _ _ | apply List.Sublist.cons_cons | apply List.Sublist.cons)) ?_
      refine vh_take 10 rfl (by kernel_rfl) (by kernel_rfl) (by kernel_rfl) (det_shl rfl rfl (by omega) ((shlP (x := 1) hp hw (by omega)).trans (by rw [Nat.one_mul]))) rfl ?_
      refine vh_take 11 rfl (by kernel_rfl) (by kernel_rfl) (by kernel_rfl) (det_sub rfl rfl (r := ((p - 1 : Nat) : Int)) ((w_i64 (by omega) (by omega)).trans (by omega))) rfl ?_
      refine vh_take 12 rfl (by kernel_rfl) (by kernel_rfl) (by kernel_rfl) (det_and rfl rfl (andP hp (by omega) hpb)) rfl ?_
      refine vh_take 13 rfl (by kernel_rfl) (by kernel_rfl) (by kernel_rfl) (det_conv Tryz.underlying3 Tryz.underlying79 rfl (w_u16 (by omega) (by omega))) rfl ?_
      refine vh_two 4 14 (by kernel_rfl) ?_ ?_
      · skip
        refine st_det rfl .no (det_load_blk (by kernel_rfl) rfl (by repeat (first | exact .hd | apply Sel.tl)) rfl) rfl (by repeat (first | exact List.Sublist.refl _ | exact List.nil_sublist _ | exact List.sublist_append_right _ _ | apply List.Sublist.cons_cons | apply List.Sublist.cons)) ?_
        refine vh_one 14 (by kernel_rfl) ?_
        refine st_eff rfl .no (eff_build_lit slT71 [_] rfl rfl (by first | exact bv_one _ | exact strs_one _ | exact ints_one _ _ | (simp; done) | (simp [Value.oneCell']; done) | assumption) (by omega) (by omega)) rfl (by rintro _ _ ⟨A33, rfl, rfl⟩; exact (by repeat (first | exact List.Sublist.refl _ | exact List.nil_sublist _ | exact List.sublist_append_right _ _ | apply List.Sublist.cons_cons | apply List.Sublist.cons))) ?_
        rintro _ _ ⟨A33, rfl, rfl⟩
        refine vh_one 15 (by kernel_rfl) ?_
        refine st_eff rfl .no (eff_app slT71 rfl (by repeat (first | exact .hd | apply Sel.tl)) rfl (by first | (exact Bor.own (by repeat (first | exact List.Mem.head _ | apply List.Mem.tail))) | (repeat (first | assumption | apply Bor.cons))) (by first | exact bv_one _ | exact strs_one _ | exact ints_one _ _ | (simp; done) | (simp [Value.oneCell']; done) | assumption) (by omega) (by omega)) rfl (by rintro _ _ ⟨A34, c34, rfl, rfl⟩; exact (by repeat (first | exact List.Sublist.refl _ | exact List.nil_sublist _ | exact List.sublist_append_right _ _ | apply List.Sublist.cons_cons | apply List.Sublist.cons))) ?_
        rintro _ _ ⟨A34, c34, rfl, rfl⟩
        refine vh_take 16 rfl (by kernel_rfl) (by kernel_rfl) (by kernel_rfl) (det_nilCheck rfl) rfl ?_
        refine vh_take 17 rfl (by kernel_rfl) (by kernel_rfl) (by kernel_rfl) (det_fieldAddr_ Tryz.underlying73 rfl (by kernel_rfl) rfl rfl) rfl ?_
        refine vh_one 18 (by kernel_rfl) ?_
        refine st_eff0 rfl .no (eff_store (by kernel_rfl) rfl rfl rfl (by repeat (first | exact .hd | apply Sel.tl)) (by simp)) (by rintro _ _ rfl; exact (by repeat (first | exact List.Sublist.refl _ | exact List.nil_sublist _ | exact List.sublist_append_right _ _ | apply List.Sublist.cons_cons | apply List.Sublist.cons))) ?_
        rintro _ _ rfl
        refine vh_done [] trivial (by kernel_rfl) ?_
        refine ret_n ?_
        have el : xs.length + 1 = (xs ++ [x]).length := by simp
        rw [el]
        refine ret_wk (L' := Pt g bt w p A3 c3 A34 c34 (xs ++ [x]) F) (.skip (.cons (.cons (wk_own rfl (by simp [u16v]) (.refl _))))) ?_
        refine ret0 rfl ?_
        exact ⟨rfl, A3, c3, A34, c34, rfl⟩
      · skip
        refine st_eff rfl .no (eff_build_lit slT71 [_] rfl rfl (by first | exact bv_one _ | exact strs_one _ | exact ints_one _ _ | (simp; done) | (simp [Value.oneCell']; done) | assumption) (by omega) (by omega)) rfl (by rintro _ _ ⟨A33, rfl, rfl⟩; exact (by repeat (first | exact List.Sublist.refl _ | exact List.nil_sublist _ | exact List.sublist_append_right _ _ | apply List.Sublist.cons_cons | apply List.Sublist.cons))) ?_
        rintro _ _ ⟨A33, rfl, rfl⟩
        refine vh_one 4 (by kernel_rfl) ?_
        refine st_det rfl .no (det_load_blk (by kernel_rfl) rfl (by repeat (first | exact .hd | apply Sel.tl)) rfl) rfl (by repeat (first | exact List.Sublist.refl _ | exact List.nil_sublist _ | exact List.sublist_append_right _ _ | apply List.Sublist.cons_cons | apply List.Sublist.cons)) ?_
        refine vh_one 15 (by kernel_rfl) ?_
        refine st_eff rfl .no (eff_app slT71 rfl (by repeat (first | exact .hd | apply Sel.tl)) rfl (by first | (exact Bor.own (by repeat (first | exact List.Mem.head _ | apply List.Mem.tail))) | (repeat (first | assumption | apply Bor.cons))) (by first | exact bv_one _ | exact strs_one _ | exact ints_one _ _ | (simp; done) | (simp [Value.oneCell']; done) | assumption) (by omega) (by omega)) rfl (by rintro _ _ ⟨A34, c34, rfl, rfl⟩; exact (by repeat (first | exact List.Sublist.refl _ | exact List.nil_sublist _ | exact List.sublist_append_right _ _ | apply List.Sublist.cons_cons | apply List.Sublist.cons))) ?_
        rintro _ _ ⟨A34, c34, rfl, rfl⟩
        refine vh_take 16 rfl (by kernel_rfl) (by kernel_rfl) (by kernel_rfl) (det_nilCheck rfl) rfl ?_
        refine vh_take 17 rfl (by kernel_rfl) (by kernel_rfl) (by kernel_rfl) (det_fieldAddr_ Tryz.underlying73 rfl (by kernel_rfl) rfl rfl) rfl ?_
        refine vh_one 18 (by kernel_rfl) ?_
        refine st_eff0 rfl .no (eff_store (by kernel_rfl) rfl rfl rfl (by repeat (first | exact .hd | apply Sel.tl)) (by simp)) (by rintro _ _ rfl; exact (by repeat (first | exact List.Sublist.refl _ | exact List.nil_sublist _ | exact List.sublist_append_right _ _ | apply List.Sublist.cons_cons | apply List.Sublist.cons))) ?_
        rintro _ _ rfl
        refine vh_done [] trivial (by kernel_rfl) ?_
        refine ret_n ?_
        have el : xs.length + 1 = (xs ++ [x]).length := by simp
        rw [el]
        refine ret_wk (L' := Pt g bt w p A3 c3 A34 c34 (xs ++ [x]) F) (.skip (.cons (.cons (wk_own rfl (by simp [u16v]) (.refl _))))) ?_
        refine ret0 rfl ?_
        exact ⟨rfl, A3, c3, A34, c34, rfl⟩
theorem num_d' (bt : TypeId) {w p : Nat} (hp : p = 2 ^ w) (hw : w ≤ 14) (xs : List Nat) (i : Nat) (hi : i < xs.length) (hx : xs.getD i 0 ≤ 1000000) :
    Does Tryz.prog B w0 69 [.pointer (some ⟨g, 0, none⟩), .int .i64 i] (Pt g bt w p A1 c1 A2 c2 xs F) (fun r L => r = .int .i64 (xs.getD i 0 : Nat) ∧ L = Pt g bt w p A1 c1 A2 c2 xs F) := by
  have hH : (natv (xs.map (· / p)))[i * 1]? = some (.int .i64 (xs.getD i 0 / p : Nat)) := by simp [natv, List.getD, List.getElem?_eq_getElem hi]
  have hL : (u16v (xs.map (· % p)))[i * 1]? = some (.int .u16 (xs.getD i 0 % p : Nat)) := by simp [u16v, List.getD, List.getElem?_eq_getElem hi]
  have hpb : p ≤ 16384 := by rw [hp]; exact pow_le14 hw
  have hp0 : 1 ≤ p := by rw [hp]; exact Nat.one_le_two_pow
  have hmod : xs.getD i 0 % p < p := Nat.mod_lt _ hp0
  have hdm := Nat.div_mul_le_self (xs.getD i 0) p
  refine fn_walk Tryz.func69 26 rfl rfl rfl [(0, .pointer (some ⟨g, 0, none⟩)), (1, .int .i64 i)] ⟨⟨rfl, rfl⟩, ⟨rfl, rfl⟩, trivial⟩ ?_
  refine vc_seq ?_
  refine vc_region ?_
  refine vl_det (det_assign rfl) rfl ?_
  refine vl_end [(0, _), (1, _)] ⟨rfl, rfl, trivial⟩ ?_
  refine then_next ?_
  refine vc_seq ?_
  refine vq_region (by kernel_rfl) (by kernel_rfl) ?_
  refine vq_det (det_move rfl) rfl ?_
  refine vq_det (det_nilCheck rfl) rfl ?_
  refine vq_det (det_fieldAddr_ Tryz.underlying73 rfl (by kernel_rfl) rfl rfl) rfl ?_
  refine vq_det (det_load_blk (by kernel_rfl) rfl (by repeat (first | exact .hd | apply Sel.tl)) rfl) rfl ?_
  refine vq_det (det_move rfl) rfl ?_
  refine vq_det (det_indexAddr (size := 1) Tryz.underlying42 (by kernel_rfl) rfl rfl rfl (by omega) (by first | (exact Bor.own (by repeat (first | exact List.Mem.head _ | apply List.Mem.tail))) | (repeat (first | assumption | apply Bor.cons)))) rfl ?_
  refine vq_det (det_load_row (by kernel_rfl) rfl (by first | (exact Bor.own (by repeat (first | exact List.Mem.head _ | apply List.Mem.tail))) | (repeat (first | assumption | apply Bor.cons))) (by omega) hH) rfl ?_
  refine vq_det (det_move rfl) rfl ?_
  refine vq_det (det_nilCheck rfl) rfl ?_
  refine vq_det (det_fieldAddr_ Tryz.underlying73 rfl (by kernel_rfl) rfl rfl) rfl ?_
  refine vq_det (det_load_blk (by kernel_rfl) rfl (by repeat (first | exact .hd | apply Sel.tl)) rfl) rfl ?_
  refine vq_det (det_shl rfl rfl (by omega) (shlP hp hw (by omega))) rfl ?_
  refine vq_det (det_move rfl) rfl ?_
  refine vq_det (det_nilCheck rfl) rfl ?_
  refine vq_det (det_fieldAddr_ Tryz.underlying73 rfl (by kernel_rfl) rfl rfl) rfl ?_
  refine vq_det (det_load_blk (by kernel_rfl) rfl (by repeat (first | exact .hd | apply Sel.tl)) rfl) rfl ?_
  refine vq_det (det_move rfl) rfl ?_
  refine vq_det (det_indexAddr (size := 1) Tryz.underlying71 (by kernel_rfl) rfl rfl rfl (by omega) (by first | (exact Bor.own (by repeat (first | exact List.Mem.head _ | apply List.Mem.tail))) | (repeat (first | assumption | apply Bor.cons)))) rfl ?_
  refine vq_det (det_load_row (by kernel_rfl) rfl (by first | (exact Bor.own (by repeat (first | exact List.Mem.head _ | apply List.Mem.tail))) | (repeat (first | assumption | apply Bor.cons))) (by omega) hL) rfl ?_
  refine vq_det (det_conv Tryz.underlying79 Tryz.underlying3 rfl (w_i64 (by omega) (by omega))) rfl ?_
  refine vq_det (det_or rfl rfl (orP hp (by omega))) rfl ?_
  refine vq_det (det_assign rfl) rfl ?_
  refine vq_end [(4, _)] ⟨rfl, trivial⟩ ?_
  refine then_next ?_
  refine vc_ret ?_
  refine ret1 rfl rfl ?_
  exact ⟨rfl, rfl⟩
end Go.Proofs.YtpamjobiohbibaaGreat
namespace Go.Proofs.YtpamjobiohbibaaGreat
/-- a number at the head of bytes: its value, how many bytes it has, or the error; i bytes were seen, acc is their value -/
def scanFrom : Nat → Nat → List UInt8 → Nat × Nat × Int
  | _, _, [] => (0, 0, 1)
  | i, acc, c :: r =>
    if i = 9 ∧ c.toNat ≠ 1 ∨ 0 < i ∧ c.toNat = 0 then (0, 0, 2)
    else if c.toNat < 128 then (acc + c.toNat % 128 * 128 ^ i, i + 1, 0)
    else scanFrom (i + 1) (acc + c.toNat % 128 * 128 ^ i) r
def scanS (l : List UInt8) : Nat × Nat × Int := scanFrom 0 0 l
/-- .. at most 'most' -/
def limS (l : List UInt8) (most : Int) : Nat × Nat × Int :=
  if (scanS l).2.2 ≠ 0 then (0, 0, (scanS l).2.2)
  else if most < 0 ∨ most < (scanS l).1 then (0, 0, 6)
  else ((scanS l).1, (scanS l).2.1, 0)
/-- a cursor: all bytes, the place, the error -/
structure Cs where
  b : List UInt8
  at_ : Nat
  e : Int
def Cs.rest (s : Cs) : List UInt8 := s.b.drop s.at_
def Cs.left (s : Cs) : Nat := s.b.length - s.at_
def Cs.failed (s : Cs) (e : Int) : Cs := if s.e = 0 then { s with e := e } else s
def Cs.moved (s : Cs) (n : Nat) (e : Int) : Cs := if s.e ≠ 0 then s else if e ≠ 0 then { s with e := e } else { s with at_ := s.at_ + n }
def Cs.num (s : Cs) : Nat := if s.e ≠ 0 then 0 else (scanS s.rest).1
def Cs.num' (s : Cs) : Cs := s.moved (scanS s.rest).2.1 (scanS s.rest).2.2
def Cs.int (s : Cs) (most : Int) : Nat := if s.e ≠ 0 then 0 else (limS s.rest most).1
def Cs.int' (s : Cs) (most : Int) : Cs := s.moved (limS s.rest most).2.1 (limS s.rest most).2.2
def takeErr (l : List UInt8) (n : Int) : Int := if n < 0 then 13 else if (l.length : Int) < n then 1 else 0
def Cs.take (s : Cs) (n : Int) : List UInt8 := if s.e ≠ 0 then [] else if takeErr s.rest n ≠ 0 then [] else s.rest.take n.toNat
def Cs.take' (s : Cs) (n : Int) : Cs := s.moved n.toNat (takeErr s.rest n)
def Cs.byte (s : Cs) : UInt8 := ((s.take 1).head?).getD 0
def Cs.byte' (s : Cs) : Cs := s.take' 1
/-- a fixed number's value -/
def leVal : List UInt8 → Nat
  | [] => 0
  | c :: r => c.toNat + 256 * leVal r
def Cs.fixed (s : Cs) (n : Int) : Nat := if n < 1 ∨ 8 < n then 0 else leVal (s.take n)
def Cs.fixed' (s : Cs) (n : Int) : Cs := if n < 1 ∨ 8 < n then s.failed 13 else s.take' n
/-- a text: its bytes, how many bytes are taken, or the error -/
def textS (l : List UInt8) (most : Int) : List UInt8 × Nat × Int :=
  if (limS l most).2.2 ≠ 0 then ([], 0, (limS l most).2.2)
  else if l.length - (limS l most).2.1 < (limS l most).1 then ([], 0, 1)
  else ((l.drop (limS l most).2.1).take (limS l most).1, (limS l most).2.1 + (limS l most).1, 0)
def Cs.text (s : Cs) (most : Int) : List UInt8 := if s.e ≠ 0 then [] else (textS s.rest most).1
def Cs.text' (s : Cs) (most : Int) : Cs := s.moved (textS s.rest most).2.1 (textS s.rest most).2.2
def Cs.end' (s : Cs) : Cs := if 0 < s.left then s.failed 2 else s

theorem scanFrom_facts : ∀ (l : List UInt8) (i acc : Nat), i ≤ 9 → acc < 128 ^ i →
    (scanFrom i acc l).1 < 18446744073709551616 ∧ (scanFrom i acc l).2.1 ≤ i + l.length ∧ 0 ≤ (scanFrom i acc l).2.2 ∧ (scanFrom i acc l).2.2 ≤ 2 := by
  intro l
  induction l with
  | nil => intro i acc _ _; simp [scanFrom]
  | cons c r ih =>
    intro i acc hi ha
    unfold scanFrom
    have hp : 128 ^ (i + 1) = 128 ^ i * 128 := Nat.pow_succ ..
    by_cases h1 : i = 9 ∧ c.toNat ≠ 1 ∨ 0 < i ∧ c.toNat = 0
    · rw [if_pos h1]; simp
    · rw [if_neg h1]
      have hstep : acc + c.toNat % 128 * 128 ^ i < 128 ^ (i + 1) := by
        have : c.toNat % 128 * 128 ^ i ≤ 127 * 128 ^ i := Nat.mul_le_mul_right _ (by omega)
        omega
      by_cases h2 : c.toNat < 128
      · rw [if_pos h2]
        refine ⟨?_, by simp only [List.length_cons]; omega, by simp, by simp⟩
        show acc + c.toNat % 128 * 128 ^ i < _
        rcases Nat.lt_or_ge i 9 with h9 | h9
        · have : 128 ^ (i + 1) ≤ 128 ^ 9 := Nat.pow_le_pow_right (by omega) (by omega)
          have e9 : (128 : Nat) ^ 9 = 9223372036854775808 := by decide +kernel
          omega
        · have h9' : i = 9 := by omega
          subst h9'
          have hc : c.toNat = 1 := by omega
          have e9 : (128 : Nat) ^ 9 = 9223372036854775808 := by decide +kernel
          have ha' : acc < 9223372036854775808 := Nat.lt_of_lt_of_eq ha e9
          rw [hc, e9]
          clear hp hstep ha e9
          omega
      · rw [if_neg h2]
        have h9 : i < 9 := by
          rcases Nat.lt_or_ge i 9 with h9 | h9
          · exact h9
          · exfalso; omega
        obtain ⟨a, b, c', d⟩ := ih (i + 1) _ (by omega) hstep
        exact ⟨a, by simp at b ⊢; omega, c', d⟩
theorem scanS_facts (l : List UInt8) : (scanS l).1 < 18446744073709551616 ∧ (scanS l).2.1 ≤ l.length ∧ 0 ≤ (scanS l).2.2 ∧ (scanS l).2.2 ≤ 2 := by
  have := scanFrom_facts l 0 0 (by omega) (by simp)
  simpa [scanS] using this
theorem limS_facts (l : List UInt8) (most : Int) (hm : most ≤ 9223372036854775807) :
    (limS l most).1 ≤ 9223372036854775807 ∧ (limS l most).2.1 ≤ l.length ∧ 0 ≤ (limS l most).2.2 ∧ ((limS l most).2.2 = 0 → ((limS l most).1 : Int) ≤ most) := by
  have h := scanS_facts l
  unfold limS
  split
  · exact ⟨by simp, by simp, h.2.2.1, fun h0 => by rename_i hne; exact absurd h0 hne⟩
  · split
    · exact ⟨by simp, by simp, by simp, by simp⟩
    · rename_i h2
      exact ⟨by simp only; omega, h.2.1, by simp, fun _ => by simp only; omega⟩
end Go.Proofs.YtpamjobiohbibaaGreat
namespace Go.Proofs.YtpamjobiohbibaaGreat
open Go.RowKit
set_option linter.unusedVariables false
theorem andnot_128 (u : UInt8) : bits .andNot .u8 (u.toNat : Int) 128 = ((u.toNat % 128 : Nat) : Int) := by
  have : ∀ x : Fin 256, bits .andNot .u8 (x.val : Int) 128 = ((x.val % 128 : Nat) : Int) := by decide +kernel
  exact this ⟨u.toNat, u.toNat_lt⟩
theorem or_shift (m y k : Nat) (h : m < 2 ^ k) : m ||| y * 2 ^ k = m + y * 2 ^ k := by
  rw [Nat.or_comm, Nat.mul_comm, ← Nat.two_pow_add_eq_or_of_lt h]; omega
theorem scan_step (m k : Nat) (u : UInt8) (hk : k ≤ 9) (hm : m < 128 ^ k) (h9 : k = 9 → u.toNat = 1) :
    bits .or .u64 (m : Int) (IntKind.u64.wrap (IntKind.u64.wrap (bits .andNot .u8 (u.toNat : Int) 128) * 2 ^ (7 * k))) = ((m + u.toNat % 128 * 128 ^ k : Nat) : Int) ∧
      (k < 9 → m + u.toNat % 128 * 128 ^ k < 128 ^ (k + 1)) ∧ m + u.toNat % 128 * 128 ^ k < 18446744073709551616 := by
  have e7 : (128 : Nat) ^ k = 2 ^ (7 * k) := by rw [show (128 : Nat) = 2 ^ 7 from rfl, ← Nat.pow_mul]
  have hstep : m + u.toNat % 128 * 128 ^ k < 128 ^ (k + 1) := by
    have : u.toNat % 128 * 128 ^ k ≤ 127 * 128 ^ k := Nat.mul_le_mul_right _ (by omega)
    rw [Nat.pow_succ]; omega
  have e9 : (128 : Nat) ^ 9 = 9223372036854775808 := by decide +kernel
  have hlt : m + u.toNat % 128 * 128 ^ k < 18446744073709551616 := by
    rcases Nat.lt_or_ge k 9 with h | h
    · have : (128 : Nat) ^ (k + 1) ≤ 128 ^ 9 := Nat.pow_le_pow_right (by omega) (by omega)
      rw [e9] at this
      clear e9 e7
      omega
    · have hk9 : k = 9 := by omega
      have hu := h9 hk9
      have hm' : m < 9223372036854775808 := by rw [← e9, ← hk9]; exact hm
      rw [hu, hk9, e9]
      clear hstep hm e7 e9
      omega
  refine ⟨?_, fun _ => hstep, hlt⟩
  rw [andnot_128, wrap_u64 _ (by omega)]
  have ep : ((u.toNat % 128 : Nat) : Int) * 2 ^ (7 * k) = ((u.toNat % 128 * 2 ^ (7 * k) : Nat) : Int) := by
    rw [Int.natCast_mul]; congr 1
  rw [e7] at hm hlt ⊢
  rw [ep, wrap_u64 _ (by omega), u64_or _ _ (by omega) (by omega), or_shift _ _ _ hm]
def ScanAt (l : List UInt8) (k m : Nat) : Prop := scanS l = scanFrom k m (l.drop k) ∧ m < 128 ^ k ∧ k ≤ 9
theorem drop_cons {l : List UInt8} {k : Nat} {u : UInt8} (h : l[k]? = some u) : l.drop k = u :: l.drop (k + 1) := by
  have hk := (List.getElem?_eq_some_iff.1 h)
  rw [List.drop_eq_getElem_cons hk.1, hk.2]
theorem ret3 {a a' b b' c c' : Value} (h1 : a = a') (h2 : b = b') (h3 : c = c') : Ending.returned (.tuple #[a, b, c]) = .returned (.tuple #[a', b', c']) := by rw [h1, h2, h3]
theorem int_eq {k : IntKind} {a b : Int} (h : a = b) : Value.int k a = .int k b := by rw [h]
set_option maxRecDepth 100000 in
set_option maxHeartbeats 1600000 in
theorem scan_c {B : Nat} {A : Option Addr} {n c : Nat} {l : List UInt8} (w : World) (h : Rd w B 1 (.slice A n c) n (bv l)) (hn : n ≤ 1099511627776) :
    Calls Tryz.prog 77 #[.slice A n c] w fun e w' => e = .returned (.tuple #[.int .u64 ((scanS l).1 : Nat), .int .i64 ((scanS l).2.1 : Nat), .int .i64 (scanS l).2.2]) ∧ w = w' := by
  have Hr := Lib.hid h; have Hl := Lib.hid h.len_eq
  clear h
  go_enter Tryz.func77, Tryz.ntmps77
  go_wp2
  go_loop [2, 5, 6, 9] (fun x i6 c6 i => ∃ k m : Nat, k ≤ n ∧ i = .int .i64 k ∧ x = .int .u64 m ∧ Hid (ScanAt l k m)) (fun _ _ _ i => n - (intOf i).toNat)
  case atStart => exact ⟨0, 0, Nat.zero_le _, rfl, rfl, by simp [Hid, ScanAt, scanS]⟩
  case round =>
    obtain ⟨k, m, hk, rfl, rfl, HS⟩ := hrel
    by_cases hlt : k < n
    · obtain ⟨ad, u, rfl, _, hlu, hcell⟩ := Hr.out.byte_at hlt
      have hs := HS.out.1
      have h9 := HS.out.2.2
      rw [drop_cons hlu, scanFrom] at hs
      have HL := Lib.hid hs
      clear hs hlu
      by_cases c1 : k = 9 ∧ u.toNat ≠ 1 ∨ 0 < k ∧ u.toNat = 0
      · have e := HL.out
        rw [if_pos c1] at e
        have HE := Lib.hid e; clear e
        by_cases hk9 : k = 9
        · have b1 : ((u.toNat : Int) != 1) = true := by rw [bne_iff_ne]; omega
          have b9 : ((k : Int) == 9) = true := by rw [beq_iff_eq]; omega
          clear hk9 c1
          go_wp2_with fail
          go_ret3
          rw [HE.out]; exact ⟨rfl, rfl⟩
        · have b9 : ((k : Int) == 9) = false := by rw [beq_eq_false_iff_ne]; omega
          have b0 : ((u.toNat : Int) == 0) = true := by rw [beq_iff_eq]; omega
          have k0 : (0 : Int) < k := by omega
          go_wp2_with fail
          go_ret3
          rw [HE.out]; exact ⟨rfl, rfl⟩
      · have hst := scan_step m k u h9 HS.out.2.1 (by omega)
        have HT := Lib.hid hst; clear hst
        by_cases c2 : u.toNat < 128
        · have e := HL.out
          rw [if_neg c1, if_pos c2] at e
          have HE := Lib.hid e; clear e
          have b9 : ((k : Int) == 9 && (u.toNat : Int) != 1) = false := by
            rw [Bool.and_eq_false_iff, beq_eq_false_iff_ne, bne_eq_false_iff_eq]; omega
          by_cases hk9 : k = 9
          · have b1 : ((u.toNat : Int) != 1) = false := by rw [bne_eq_false_iff_eq]; omega
            have b0 : ((u.toNat : Int) == 0) = false := by rw [beq_eq_false_iff_ne]; omega
            clear b9
            have b9 : ((k : Int) == 9) = true := by rw [beq_iff_eq]; omega
            have k0 : (0 : Int) < k := by omega
            clear hk9 c1
            go_wp2_with fail
            go_ret3
            rw [HE.out]; exact ⟨ret3 (int_eq HT.out.1) rfl rfl, rfl⟩
          · have b9 : ((k : Int) == 9) = false := by rw [beq_eq_false_iff_ne]; omega
            by_cases hk0 : k = 0
            · have k0 : ¬ ((0 : Int) < k) := by omega
              have HK := Lib.hid hk0; clear hk0
              go_wp2_with fail
              go_ret3
              rw [HE.out]; exact ⟨ret3 (int_eq HT.out.1) rfl rfl, rfl⟩
            · have k0 : (0 : Int) < k := by omega
              have b0 : ((u.toNat : Int) == 0) = false := by rw [beq_eq_false_iff_ne]; omega
              go_wp2_with fail
              go_ret3
              rw [HE.out]; exact ⟨ret3 (int_eq HT.out.1) rfl rfl, rfl⟩
        · have e := HL.out
          rw [if_neg c1, if_neg c2] at e
          have hk9 : k < 9 := by omega
          have HE : Hid (ScanAt l (k + 1) (m + u.toNat % 128 * 128 ^ k)) := ⟨e, HT.out.2.1 hk9, by omega⟩
          clear e
          have b9 : ((k : Int) == 9) = false := by rw [beq_eq_false_iff_ne]; omega
          by_cases hk0 : k = 0
          · have k0 : ¬ ((0 : Int) < k) := by omega
            have HK := Lib.hid hk0; clear hk0
            go_wp2_with fail
            go_round
            case rel => exact ⟨k + 1, _, by omega, by go_num, int_eq HT.out.1, HE⟩
            case measure => simp [intOf]; omega
          · have k0 : (0 : Int) < k := by omega
            have b0 : ((u.toNat : Int) == 0) = false := by rw [beq_eq_false_iff_ne]; omega
            go_wp2_with fail
            go_round
            case rel => exact ⟨k + 1, _, by omega, by go_num, int_eq HT.out.1, HE⟩
            case measure => simp [intOf]; omega
    · have e := HS.out.1
      rw [List.drop_of_length_le (by have := Hl.out; omega), scanFrom] at e
      have HE := Lib.hid e; clear e
      go_wp2_with fail
      go_ret3
      rw [HE.out]; exact ⟨rfl, rfl⟩
end Go.Proofs.YtpamjobiohbibaaGreat
