/-
  bits.Writer, by frames. No condition.
-/
import Derived.Test.YtpgmokfhcdibhaaBitRow
import Derived.Test.YtpgmokfhcdibhaaClone
namespace Go.Proofs.Ytpgmokfhcdibhaa
open Go.RowKit
set_option linter.unusedVariables false
set_option maxRecDepth 20000
variable {B : Nat} {w0 : World} {F : List Ch} {A : Option Addr} {n c g : Nat} {bt : TypeId} {f : Ch → List Ch}
/-- a writer's memory -/
abbrev Wr (g : Nat) (bt : TypeId) (A : Option Addr) (c : Nat) (q : List Bool) (F : List Ch) : List Ch := .blk g bt [.slice A (packed q).length c, .int .i64 q.length] :: .own 5 1 A (packed q).length c (bv (packed q)) :: F
theorem put_d (q : List Bool) (v : Nat) (hv : v < 18446744073709551616) (n : Nat) (hn : n ≤ 64) (hp : v < 2 ^ n) (hq : q.length ≤ 7000000) :
    Does Try.prog B w0 25 [.pointer (some ⟨g, 0, none⟩), .int .u64 v, .int .i64 n] (Wr g bt A c q F)
      (fun r L => r = .int .i64 0 ∧ ∃ A' c', L = Wr g bt A' c' (q ++ hi v n n) F) := by
  refine fn_walk Try.func25 42 rfl rfl rfl [(0, .pointer (some ⟨g, 0, none⟩)), (1, .int .u64 v), (2, .int .i64 n)] ⟨⟨rfl, rfl⟩, ⟨rfl, rfl⟩, ⟨rfl, rfl⟩, trivial⟩ ?_
  refine vc_seq ?_
  refine vc_region ?_
  refine vl_det (det_assign rfl) rfl ?_
  refine vl_end [(0, _), (1, _), (2, _)] ⟨rfl, rfl, rfl, trivial⟩ ?_
  refine then_next ?_
  refine vc_seq ?_
  refine vc_seq ?_
  refine vc_region ?_
  refine vl_cut 20 27 [(0, _), (1, _), (2, _)] (False) ⟨rfl, rfl, rfl, trivial⟩ ?_ ?_
  · skip
    refine vl_det (det_move rfl) rfl ?_
    refine vl_det (det_ptr_nil Try.underlying78 rfl rfl) rfl ?_
    refine vl_det (det_move rfl) rfl ?_
    refine vl_guard_t rfl rfl ?_
    refine vl_det (det_move rfl) rfl ?_
    refine vl_guard_t rfl rfl ?_
    refine vl_det (det_lss rfl rfl) rfl ?_
    refine vl_det (det_pick_f rfl rfl) rfl ?_
    refine vl_det (det_move rfl) rfl ?_
    refine vl_guardn rfl rfl rfl (fun h14 => ?_) (fun h14 => ?_)
    · skip
      refine vl_det (det_move rfl) rfl ?_
      refine vl_guard_t rfl rfl ?_
      refine vl_det (det_gtr rfl rfl) rfl ?_
      refine vl_det (det_pick_f rfl rfl) rfl ?_
      refine vl_det (det_move rfl) rfl ?_
      refine vl_guardn rfl rfl rfl (fun h18 => ?_) (fun h18 => ?_)
      · skip
        refine vl_det (det_move rfl) rfl ?_
        refine vl_guard_t rfl rfl ?_
        refine vl_det (det_lss rfl rfl) rfl ?_
        refine vl_guard_t rfl rfl ?_
        refine vl_det (det_move rfl) rfl ?_
        refine vl_guardp rfl rfl rfl (fun h21 => ?_) (fun h21 => ?_)
        · skip
          refine vl_det (det_move rfl) rfl ?_
          refine vl_guard_t rfl rfl ?_
          refine vl_det (det_move rfl) rfl ?_
          refine vl_guard_t rfl rfl ?_
          refine vl_det (det_shr rfl rfl (by omega) (shr_at v (e := n) rfl (by omega))) rfl ?_
          refine vl_guard_t rfl rfl ?_
          refine vl_det (det_neq rfl rfl) rfl ?_
          refine vl_guard_t rfl rfl ?_
          refine vl_det (det_pick_t rfl rfl) rfl ?_
          refine vl_det (det_pick_f rfl rfl) rfl ?_
          exact vl_cut_end ⟨rfl, rfl, rfl, trivial⟩ (by first | rfl | exact bool_to_t (by first | (exact ⟨fun h => puts_shr h hp, False.elim⟩) | omega | (simp at h10; done)) | exact bool_to_f (by first | (exact ⟨fun h => puts_shr h hp, False.elim⟩) | omega | (simp at h10; done)) | exact bool_to (by first | (exact ⟨fun h => puts_shr h hp, False.elim⟩) | omega | (simp at h10; done)) | exact bool_to_b (by first | (exact ⟨fun h => puts_shr h hp, False.elim⟩) | omega | (simp at h10; done)))
        · skip
          refine vl_guard_f rfl rfl rfl rfl ?_
          refine vl_guard_f rfl rfl rfl rfl ?_
          refine vl_guard_f rfl rfl rfl rfl ?_
          refine vl_guard_t rfl rfl ?_
          refine vl_det (det_pick_f rfl rfl) rfl ?_
          refine vl_det (det_pick_f rfl rfl) rfl ?_
          exact vl_cut_end ⟨rfl, rfl, rfl, trivial⟩ (by first | rfl | exact bool_to_t (by first | (exact ⟨fun h => puts_shr h hp, False.elim⟩) | omega | (simp at h10; done)) | exact bool_to_f (by first | (exact ⟨fun h => puts_shr h hp, False.elim⟩) | omega | (simp at h10; done)) | exact bool_to (by first | (exact ⟨fun h => puts_shr h hp, False.elim⟩) | omega | (simp at h10; done)) | exact bool_to_b (by first | (exact ⟨fun h => puts_shr h hp, False.elim⟩) | omega | (simp at h10; done)))
      · skip
        refine vl_guard_f rfl rfl rfl rfl ?_
        refine vl_guard_f rfl rfl rfl rfl ?_
        refine vl_guard_u rfl rfl rfl ?_
        refine vl_guard_u rfl rfl rfl ?_
        refine vl_guard_u rfl rfl rfl ?_
        refine vl_guard_u rfl rfl rfl ?_
        refine vl_guard_f rfl rfl rfl rfl ?_
        refine vl_det (det_pick_t rfl rfl) rfl ?_
        exact vl_cut_end ⟨rfl, rfl, rfl, trivial⟩ (by first | rfl | exact bool_to_t (by first | (exact ⟨fun h => puts_shr h hp, False.elim⟩) | omega | (simp at h10; done)) | exact bool_to_f (by first | (exact ⟨fun h => puts_shr h hp, False.elim⟩) | omega | (simp at h10; done)) | exact bool_to (by first | (exact ⟨fun h => puts_shr h hp, False.elim⟩) | omega | (simp at h10; done)) | exact bool_to_b (by first | (exact ⟨fun h => puts_shr h hp, False.elim⟩) | omega | (simp at h10; done)))
    · skip
      refine vl_guard_f rfl rfl rfl rfl ?_
      refine vl_det (det_pick_t rfl rfl) rfl ?_
      refine vl_det (det_move rfl) rfl ?_
      refine vl_guard_f rfl rfl rfl rfl ?_
      refine vl_guard_f rfl rfl rfl rfl ?_
      refine vl_guard_f rfl rfl rfl rfl ?_
      refine vl_guard_u rfl rfl rfl ?_
      refine vl_guard_u rfl rfl rfl ?_
      refine vl_guard_u rfl rfl rfl ?_
      refine vl_guard_u rfl rfl rfl ?_
      refine vl_guard_f rfl rfl rfl rfl ?_
      refine vl_det (det_pick_t rfl rfl) rfl ?_
      exact vl_cut_end ⟨rfl, rfl, rfl, trivial⟩ (by first | rfl | exact bool_to_t (by first | (exact ⟨fun h => puts_shr h hp, False.elim⟩) | omega | (simp at h10; done)) | exact bool_to_f (by first | (exact ⟨fun h => puts_shr h hp, False.elim⟩) | omega | (simp at h10; done)) | exact bool_to (by first | (exact ⟨fun h => puts_shr h hp, False.elim⟩) | omega | (simp at h10; done)) | exact bool_to_b (by first | (exact ⟨fun h => puts_shr h hp, False.elim⟩) | omega | (simp at h10; done)))
  · skip
    refine vl_end [(0, _), (1, _), (2, _), (27, _)] ⟨rfl, rfl, rfl, rfl, trivial⟩ ?_
    refine then_next ?_
    refine vc_decideU rfl (fun h27 => ?_) (fun h27 => ?_)
    · skip
      exfalso; omega
    · skip
      refine vc_skip ?_
      refine then_next ?_
      refine vc_seq ?_
      refine vc_seq ?_
      refine vc_region ?_
      refine vl_det (det_move rfl) rfl ?_
      refine vl_det (det_sub rfl rfl (w_i64 (by omega) (by omega))) rfl ?_
      refine vl_det (det_assign rfl) rfl ?_
      refine vl_end [(0, _), (1, _), (7, _)] ⟨rfl, rfl, rfl, trivial⟩ ?_
      refine then_next ?_
      refine vc_block ?_
      refine vc_loopJ (fun zf zL zm => ∃ (m : Nat) (A' : Option Addr) (c' : Nat), (m ≤ n) ∧ n - m = zm ∧ Sub zf [(0, .pointer (some ⟨g, 0, none⟩)), (1, .int .u64 v), (7, .int .i64 ((n : Int) - m - 1))] ∧ Wk zL (Wr g bt A' c' (q ++ hi v n m) F)) _ ⟨0, A, c, Nat.zero_le _, rfl, ⟨(by first | rfl | exact int_to (by omega) | exact sl_to (by omega)), (by first | rfl | exact int_to (by omega) | exact sl_to (by omega)), (by first | rfl | exact int_to (by omega) | exact sl_to (by omega)), trivial⟩, wk_blk (by rw [hi_zero, List.append_nil]) (wk_own (by rw [hi_zero, List.append_nil]) (by rw [hi_zero, List.append_nil]) (.refl _))⟩ ?_
      rintro _ _ _ ⟨m, A', c', hm, rfl, hs, hp⟩
      refine vc_weaken _ hs (vc_wk hp ?_)
      clear hs hp
      have hll : (q ++ hi v n m).length = q.length + m := by rw [List.length_append, hi_length]
      refine vc_seq ?_
      refine vc_seq ?_
      refine vc_region ?_
      refine vl_det (det_move rfl) rfl ?_
      refine vl_det (det_geq rfl rfl) rfl ?_
      refine vl_end [(0, _), (1, _), (7, _), (31, _)] ⟨rfl, rfl, rfl, rfl, trivial⟩ ?_
      refine then_next ?_
      refine vc_decideU rfl (fun h31 => ?_) (fun h31 => ?_)
      · skip
        refine vc_skip ?_
        refine then_next ?_
        refine vc_seq ?_
        refine vc_block ?_
        refine vh_region (S := F) (by kernel_rfl) (by repeat (first | exact List.Sublist.refl _ | exact List.nil_sublist _ | apply List.Sublist.cons_cons | apply List.Sublist.cons)) ?_
        refine vh_take 0 rfl (by kernel_rfl) (by kernel_rfl) (by kernel_rfl) (det_move rfl) rfl ?_
        refine vh_take 1 rfl (by kernel_rfl) (by kernel_rfl) (by kernel_rfl) (det_nilCheck rfl) rfl ?_
        refine vh_take 2 rfl (by kernel_rfl) (by kernel_rfl) (by kernel_rfl) (det_fieldAddr_ Try.underlying56 rfl (by kernel_rfl) rfl rfl) rfl ?_
        refine vh_take 3 rfl (by kernel_rfl) (by kernel_rfl) (by kernel_rfl) (det_move rfl) rfl ?_
        refine vh_take 4 rfl (by kernel_rfl) (by kernel_rfl) (by kernel_rfl) (det_move rfl) rfl ?_
        refine vh_take 5 rfl (by kernel_rfl) (by kernel_rfl) (by kernel_rfl) (det_shr rfl rfl (by omega) (shr_at v (e := n - 1 - m) (by omega) (by omega))) rfl ?_
        refine vh_take 6 rfl (by kernel_rfl) (by kernel_rfl) (by kernel_rfl) (det_and rfl rfl (shr_and v _ hv)) rfl ?_
        refine vh_one 7 (by kernel_rfl) ?_
        refine st_call rfl .no co43 rfl (add_d (q ++ hi v n m) (v.testBit (n - 1 - m)) (by omega)) rfl (by rintro _ _ ⟨rfl, A41, c41, rfl⟩; exact (by repeat (first | exact List.Sublist.refl _ | exact List.nil_sublist _ | apply List.Sublist.cons_cons | apply List.Sublist.cons))) ?_
        rintro _ _ ⟨rfl, A41, c41, hLL⟩
        obtain rfl := hLL.symm
        refine vh_done [(0, _), (1, _), (7, _)] ⟨rfl, rfl, rfl, trivial⟩ (by kernel_rfl) ?_
        refine in_normal ?_
        refine then_next ?_
        refine vc_region ?_
        refine vl_det (det_move rfl) rfl ?_
        refine vl_det (det_sub rfl rfl (w_i64 (by omega) (by omega))) rfl ?_
        refine vl_det (det_assign rfl) rfl ?_
        refine vl_end [(0, _), (1, _), (7, _)] ⟨rfl, rfl, rfl, trivial⟩ ?_
        refine in_loop_ ⟨_, by omega, m + 1, A41, c41, by omega, rfl, ⟨(by first | rfl | exact int_to (by omega) | exact sl_to (by omega)), (by first | rfl | exact int_to (by omega) | exact sl_to (by omega)), (by first | rfl | exact int_to (by omega) | exact sl_to (by omega)), trivial⟩, wk_blk (by rw [hi_succ, List.append_assoc]) (wk_own (by rw [hi_succ, List.append_assoc]) (by rw [hi_succ, List.append_assoc]) (.refl _))⟩
      · skip
        refine vc_exit ?_
        refine then_exit ?_
        refine loop_exit ?_
        refine in_eq ?_
        refine then_next ?_
        refine vc_seq ?_
        refine vc_region ?_
        refine vl_det (det_assign rfl) rfl ?_
        refine vl_end [(6, _)] ⟨rfl, trivial⟩ ?_
        refine then_next ?_
        refine vc_ret ?_
        refine ret1 rfl rfl ?_
        have hm' : m = n := by omega
        subst hm'
        exact ⟨rfl, A', c', rfl⟩
theorem putbad_d (q : List Bool) (v : Nat) (hv : v < 18446744073709551616) (n : Int) (h1 : -9223372036854775808 ≤ n) (h2 : n < 9223372036854775808) (hp : ¬ Puts v n) :
    Does Try.prog B w0 25 [.pointer (some ⟨g, 0, none⟩), .int .u64 v, .int .i64 n] F
      (fun r L => r = .int .i64 13 ∧ L = F) := by
  refine fn_walk Try.func25 42 rfl rfl rfl [(0, .pointer (some ⟨g, 0, none⟩)), (1, .int .u64 v), (2, .int .i64 n)] ⟨⟨rfl, rfl⟩, ⟨rfl, rfl⟩, ⟨rfl, rfl⟩, trivial⟩ ?_
  refine vc_seq ?_
  refine vc_region ?_
  refine vl_det (det_assign rfl) rfl ?_
  refine vl_end [(0, _), (1, _), (2, _)] ⟨rfl, rfl, rfl, trivial⟩ ?_
  refine then_next ?_
  refine vc_seq ?_
  refine vc_seq ?_
  refine vc_region ?_
  refine vl_cut 20 27 [(0, _), (1, _), (2, _)] (True) ⟨rfl, rfl, rfl, trivial⟩ ?_ ?_
  · skip
    refine vl_det (det_move rfl) rfl ?_
    refine vl_det (det_ptr_nil Try.underlying78 rfl rfl) rfl ?_
    refine vl_det (det_move rfl) rfl ?_
    refine vl_guard_t rfl rfl ?_
    refine vl_det (det_move rfl) rfl ?_
    refine vl_guard_t rfl rfl ?_
    refine vl_det (det_lss rfl rfl) rfl ?_
    refine vl_det (det_pick_f rfl rfl) rfl ?_
    refine vl_det (det_move rfl) rfl ?_
    refine vl_guardn rfl rfl rfl (fun h14 => ?_) (fun h14 => ?_)
    · skip
      refine vl_det (det_move rfl) rfl ?_
      refine vl_guard_t rfl rfl ?_
      refine vl_det (det_gtr rfl rfl) rfl ?_
      refine vl_det (det_pick_f rfl rfl) rfl ?_
      refine vl_det (det_move rfl) rfl ?_
      refine vl_guardn rfl rfl rfl (fun h18 => ?_) (fun h18 => ?_)
      · skip
        refine vl_det (det_move rfl) rfl ?_
        refine vl_guard_t rfl rfl ?_
        refine vl_det (det_lss rfl rfl) rfl ?_
        refine vl_guard_t rfl rfl ?_
        refine vl_det (det_move rfl) rfl ?_
        refine vl_guardp rfl rfl rfl (fun h21 => ?_) (fun h21 => ?_)
        · skip
          refine vl_det (det_move rfl) rfl ?_
          refine vl_guard_t rfl rfl ?_
          refine vl_det (det_move rfl) rfl ?_
          refine vl_guard_t rfl rfl ?_
          refine vl_det (det_shr rfl rfl (by omega) (shr_at v (e := n.toNat) (by omega) (by omega))) rfl ?_
          refine vl_guard_t rfl rfl ?_
          refine vl_det (det_neq rfl rfl) rfl ?_
          refine vl_guard_t rfl rfl ?_
          refine vl_det (det_pick_t rfl rfl) rfl ?_
          refine vl_det (det_pick_f rfl rfl) rfl ?_
          exact vl_cut_end ⟨rfl, rfl, rfl, trivial⟩ (by first | rfl | exact bool_to_t (by first | (exact trivial) | (exact ⟨fun _ => trivial, fun _ h => hp ⟨by omega, by omega, puts_shr0 h⟩⟩) | (exact fun _ => hp ⟨by omega, by omega, by rw [show n.toNat = 64 by omega]; exact hv⟩) | omega) | exact bool_to_f (by first | (exact trivial) | (exact ⟨fun _ => trivial, fun _ h => hp ⟨by omega, by omega, puts_shr0 h⟩⟩) | (exact fun _ => hp ⟨by omega, by omega, by rw [show n.toNat = 64 by omega]; exact hv⟩) | omega) | exact bool_to (by first | (exact trivial) | (exact ⟨fun _ => trivial, fun _ h => hp ⟨by omega, by omega, puts_shr0 h⟩⟩) | (exact fun _ => hp ⟨by omega, by omega, by rw [show n.toNat = 64 by omega]; exact hv⟩) | omega) | exact bool_to_b (by first | (exact trivial) | (exact ⟨fun _ => trivial, fun _ h => hp ⟨by omega, by omega, puts_shr0 h⟩⟩) | (exact fun _ => hp ⟨by omega, by omega, by rw [show n.toNat = 64 by omega]; exact hv⟩) | omega))
        · skip
          refine vl_guard_f rfl rfl rfl rfl ?_
          refine vl_guard_f rfl rfl rfl rfl ?_
          refine vl_guard_f rfl rfl rfl rfl ?_
          refine vl_guard_t rfl rfl ?_
          refine vl_det (det_pick_f rfl rfl) rfl ?_
          refine vl_det (det_pick_f rfl rfl) rfl ?_
          exact vl_cut_end ⟨rfl, rfl, rfl, trivial⟩ (by first | rfl | exact bool_to_t (by first | (exact trivial) | (exact ⟨fun _ => trivial, fun _ h => hp ⟨by omega, by omega, puts_shr0 h⟩⟩) | (exact fun _ => hp ⟨by omega, by omega, by rw [show n.toNat = 64 by omega]; exact hv⟩) | omega) | exact bool_to_f (by first | (exact trivial) | (exact ⟨fun _ => trivial, fun _ h => hp ⟨by omega, by omega, puts_shr0 h⟩⟩) | (exact fun _ => hp ⟨by omega, by omega, by rw [show n.toNat = 64 by omega]; exact hv⟩) | omega) | exact bool_to (by first | (exact trivial) | (exact ⟨fun _ => trivial, fun _ h => hp ⟨by omega, by omega, puts_shr0 h⟩⟩) | (exact fun _ => hp ⟨by omega, by omega, by rw [show n.toNat = 64 by omega]; exact hv⟩) | omega) | exact bool_to_b (by first | (exact trivial) | (exact ⟨fun _ => trivial, fun _ h => hp ⟨by omega, by omega, puts_shr0 h⟩⟩) | (exact fun _ => hp ⟨by omega, by omega, by rw [show n.toNat = 64 by omega]; exact hv⟩) | omega))
      · skip
        refine vl_guard_f rfl rfl rfl rfl ?_
        refine vl_guard_f rfl rfl rfl rfl ?_
        refine vl_guard_u rfl rfl rfl ?_
        refine vl_guard_u rfl rfl rfl ?_
        refine vl_guard_u rfl rfl rfl ?_
        refine vl_guard_u rfl rfl rfl ?_
        refine vl_guard_f rfl rfl rfl rfl ?_
        refine vl_det (det_pick_t rfl rfl) rfl ?_
        exact vl_cut_end ⟨rfl, rfl, rfl, trivial⟩ (by first | rfl | exact bool_to_t (by first | (exact trivial) | (exact ⟨fun _ => trivial, fun _ h => hp ⟨by omega, by omega, puts_shr0 h⟩⟩) | (exact fun _ => hp ⟨by omega, by omega, by rw [show n.toNat = 64 by omega]; exact hv⟩) | omega) | exact bool_to_f (by first | (exact trivial) | (exact ⟨fun _ => trivial, fun _ h => hp ⟨by omega, by omega, puts_shr0 h⟩⟩) | (exact fun _ => hp ⟨by omega, by omega, by rw [show n.toNat = 64 by omega]; exact hv⟩) | omega) | exact bool_to (by first | (exact trivial) | (exact ⟨fun _ => trivial, fun _ h => hp ⟨by omega, by omega, puts_shr0 h⟩⟩) | (exact fun _ => hp ⟨by omega, by omega, by rw [show n.toNat = 64 by omega]; exact hv⟩) | omega) | exact bool_to_b (by first | (exact trivial) | (exact ⟨fun _ => trivial, fun _ h => hp ⟨by omega, by omega, puts_shr0 h⟩⟩) | (exact fun _ => hp ⟨by omega, by omega, by rw [show n.toNat = 64 by omega]; exact hv⟩) | omega))
    · skip
      refine vl_guard_f rfl rfl rfl rfl ?_
      refine vl_det (det_pick_t rfl rfl) rfl ?_
      refine vl_det (det_move rfl) rfl ?_
      refine vl_guard_f rfl rfl rfl rfl ?_
      refine vl_guard_f rfl rfl rfl rfl ?_
      refine vl_guard_f rfl rfl rfl rfl ?_
      refine vl_guard_u rfl rfl rfl ?_
      refine vl_guard_u rfl rfl rfl ?_
      refine vl_guard_u rfl rfl rfl ?_
      refine vl_guard_u rfl rfl rfl ?_
      refine vl_guard_f rfl rfl rfl rfl ?_
      refine vl_det (det_pick_t rfl rfl) rfl ?_
      exact vl_cut_end ⟨rfl, rfl, rfl, trivial⟩ (by first | rfl | exact bool_to_t (by first | (exact trivial) | (exact ⟨fun _ => trivial, fun _ h => hp ⟨by omega, by omega, puts_shr0 h⟩⟩) | (exact fun _ => hp ⟨by omega, by omega, by rw [show n.toNat = 64 by omega]; exact hv⟩) | omega) | exact bool_to_f (by first | (exact trivial) | (exact ⟨fun _ => trivial, fun _ h => hp ⟨by omega, by omega, puts_shr0 h⟩⟩) | (exact fun _ => hp ⟨by omega, by omega, by rw [show n.toNat = 64 by omega]; exact hv⟩) | omega) | exact bool_to (by first | (exact trivial) | (exact ⟨fun _ => trivial, fun _ h => hp ⟨by omega, by omega, puts_shr0 h⟩⟩) | (exact fun _ => hp ⟨by omega, by omega, by rw [show n.toNat = 64 by omega]; exact hv⟩) | omega) | exact bool_to_b (by first | (exact trivial) | (exact ⟨fun _ => trivial, fun _ h => hp ⟨by omega, by omega, puts_shr0 h⟩⟩) | (exact fun _ => hp ⟨by omega, by omega, by rw [show n.toNat = 64 by omega]; exact hv⟩) | omega))
  · skip
    refine vl_end [(0, _), (1, _), (2, _), (27, _)] ⟨rfl, rfl, rfl, rfl, trivial⟩ ?_
    refine then_next ?_
    refine vc_decideU rfl (fun h27 => ?_) (fun h27 => ?_)
    · skip
      refine vc_seq ?_
      refine vc_region ?_
      refine vl_det (det_assign rfl) rfl ?_
      refine vl_end [(6, _)] ⟨rfl, trivial⟩ ?_
      refine then_next ?_
      refine vc_ret ?_
      refine then_ret ?_
      refine ret1 rfl rfl ?_
      exact ⟨rfl, rfl⟩
    · skip
      exfalso; exact h27 trivial
theorem unary_d (q : List Bool) (n : Nat) (hn : n ≤ 100000) (hq : q.length ≤ 7000000) :
    Does Try.prog B w0 26 [.pointer (some ⟨g, 0, none⟩), .int .i64 n] (Wr g bt A c q F)
      (fun r L => r = .int .i64 0 ∧ ∃ A' c', L = Wr g bt A' c' (q ++ un n) F) := by
  refine fn_walk Try.func26 27 rfl rfl rfl [(0, .pointer (some ⟨g, 0, none⟩)), (1, .int .i64 n)] ⟨⟨rfl, rfl⟩, ⟨rfl, rfl⟩, trivial⟩ ?_
  refine vc_seq ?_
  refine vc_region ?_
  refine vl_det (det_assign rfl) rfl ?_
  refine vl_end [(0, _), (1, _)] ⟨rfl, rfl, trivial⟩ ?_
  refine then_next ?_
  refine vc_seq ?_
  refine vc_seq ?_
  refine vc_region ?_
  refine vl_cut 10 14 [(0, _), (1, _)] (False) ⟨rfl, rfl, trivial⟩ ?_ ?_
  · skip
    refine vl_det (det_move rfl) rfl ?_
    refine vl_det (det_ptr_nil Try.underlying78 rfl rfl) rfl ?_
    refine vl_det (det_move rfl) rfl ?_
    refine vl_guard_t rfl rfl ?_
    refine vl_det (det_move rfl) rfl ?_
    refine vl_guard_t rfl rfl ?_
    refine vl_det (det_lss rfl rfl) rfl ?_
    refine vl_det (det_pick_f rfl rfl) rfl ?_
    refine vl_det (det_move rfl) rfl ?_
    refine vl_guardn rfl rfl rfl (fun h11 => ?_) (fun h11 => ?_)
    · skip
      refine vl_det (det_move rfl) rfl ?_
      refine vl_guard_t rfl rfl ?_
      refine vl_det (det_gtr rfl rfl) rfl ?_
      refine vl_det (det_pick_f rfl rfl) rfl ?_
      exact vl_cut_end ⟨rfl, rfl, trivial⟩ (by first | rfl | exact bool_to_t (by first | (exact ⟨fun h => absurd h (by omega), False.elim⟩) | omega | (simp at h7; done)) | exact bool_to_f (by first | (exact ⟨fun h => absurd h (by omega), False.elim⟩) | omega | (simp at h7; done)) | exact bool_to (by first | (exact ⟨fun h => absurd h (by omega), False.elim⟩) | omega | (simp at h7; done)) | exact bool_to_b (by first | (exact ⟨fun h => absurd h (by omega), False.elim⟩) | omega | (simp at h7; done)))
    · skip
      refine vl_guard_f rfl rfl rfl rfl ?_
      refine vl_det (det_pick_t rfl rfl) rfl ?_
      exact vl_cut_end ⟨rfl, rfl, trivial⟩ (by first | rfl | exact bool_to_t (by first | (exact ⟨fun h => absurd h (by omega), False.elim⟩) | omega | (simp at h7; done)) | exact bool_to_f (by first | (exact ⟨fun h => absurd h (by omega), False.elim⟩) | omega | (simp at h7; done)) | exact bool_to (by first | (exact ⟨fun h => absurd h (by omega), False.elim⟩) | omega | (simp at h7; done)) | exact bool_to_b (by first | (exact ⟨fun h => absurd h (by omega), False.elim⟩) | omega | (simp at h7; done)))
  · skip
    refine vl_end [(0, _), (1, _), (14, _)] ⟨rfl, rfl, rfl, trivial⟩ ?_
    refine then_next ?_
    refine vc_decideU rfl (fun h14 => ?_) (fun h14 => ?_)
    · skip
      exfalso; omega
    · skip
      refine vc_skip ?_
      refine then_next ?_
      refine vc_seq ?_
      refine vc_seq ?_
      refine vc_region ?_
      refine vl_det (det_move rfl) rfl ?_
      refine vl_det (det_move rfl) rfl ?_
      refine vl_end [(0, _), (15, _), (16, _)] ⟨rfl, rfl, rfl, trivial⟩ ?_
      refine then_next ?_
      refine vc_block ?_
      refine vc_loopJ (fun zf zL zm => ∃ (m : Nat) (A' : Option Addr) (c' : Nat), (m ≤ n) ∧ n - m = zm ∧ Sub zf [(0, .pointer (some ⟨g, 0, none⟩)), (15, .int .i64 n), (16, .int .i64 m)] ∧ Wk zL (Wr g bt A' c' (q ++ List.replicate m false) F)) _ ⟨0, A, c, Nat.zero_le _, rfl, ⟨(by first | rfl | exact int_to (by omega) | exact sl_to (by omega)), (by first | rfl | exact int_to (by omega) | exact sl_to (by omega)), (by first | rfl | exact int_to (by omega) | exact sl_to (by omega)), trivial⟩, wk_blk (by rw [List.replicate_zero, List.append_nil]) (wk_own (by rw [List.replicate_zero, List.append_nil]) (by rw [List.replicate_zero, List.append_nil]) (.refl _))⟩ ?_
      rintro _ _ _ ⟨m, A', c', hm, rfl, hs, hp⟩
      refine vc_weaken _ hs (vc_wk hp ?_)
      clear hs hp
      have hll : (q ++ List.replicate m false).length = q.length + m := by rw [List.length_append, List.length_replicate]
      refine vc_seq ?_
      refine vc_region ?_
      refine vl_det (det_lss rfl rfl) rfl ?_
      refine vl_end [(0, _), (15, _), (16, _), (17, _)] ⟨rfl, rfl, rfl, rfl, trivial⟩ ?_
      refine then_next ?_
      refine vc_seq ?_
      refine vc_decideU rfl (fun h17 => ?_) (fun h17 => ?_)
      · skip
        refine vc_skip ?_
        refine then_next ?_
        refine vc_seq ?_
        refine vc_block ?_
        refine vc_region ?_
        refine vl_det (det_move rfl) rfl ?_
        refine vl_det (det_nilCheck rfl) rfl ?_
        refine vl_det (det_fieldAddr_ Try.underlying56 rfl (by kernel_rfl) rfl rfl) rfl ?_
        refine vl_call co43 rfl (add_d (q ++ List.replicate m false) false (by omega)) rfl ?_
        rintro _ _ ⟨rfl, A21, c21, hLL⟩
        obtain rfl := hLL.symm
        refine vl_end [(0, _), (15, _), (16, _)] ⟨rfl, rfl, rfl, trivial⟩ ?_
        refine in_normal ?_
        refine then_next ?_
        refine vc_region ?_
        refine vl_det (det_add rfl rfl (w_i64 (by omega) (by omega))) rfl ?_
        refine vl_det (det_move rfl) rfl ?_
        refine vl_end [(0, _), (15, _), (16, _)] ⟨rfl, rfl, rfl, trivial⟩ ?_
        refine in_loop_ ⟨_, by omega, m + 1, A21, c21, by omega, rfl, ⟨(by first | rfl | exact int_to (by omega) | exact sl_to (by omega)), (by first | rfl | exact int_to (by omega) | exact sl_to (by omega)), (by first | rfl | exact int_to (by omega) | exact sl_to (by omega)), trivial⟩, wk_blk (by rw [rep_snoc, List.append_assoc]) (wk_own (by rw [rep_snoc, List.append_assoc]) (by rw [rep_snoc, List.append_assoc]) (.refl _))⟩
      · skip
        refine vc_exit ?_
        refine then_exit ?_
        refine loop_exit ?_
        refine in_eq ?_
        refine then_next ?_
        refine vc_seq ?_
        refine vc_region ?_
        refine vl_det (det_move rfl) rfl ?_
        refine vl_det (det_nilCheck rfl) rfl ?_
        refine vl_det (det_fieldAddr_ Try.underlying56 rfl (by kernel_rfl) rfl rfl) rfl ?_
        refine vl_call co43 rfl (add_d (q ++ List.replicate m false) true (by omega)) rfl ?_
        rintro _ _ ⟨rfl, A26, c26, hLL⟩
        obtain rfl := hLL.symm
        refine vl_end [] trivial ?_
        refine then_next ?_
        refine vc_seq ?_
        refine vc_region ?_
        refine vl_det (det_assign rfl) rfl ?_
        refine vl_end [(4, _)] ⟨rfl, trivial⟩ ?_
        refine then_next ?_
        refine vc_ret ?_
        refine ret1 rfl rfl ?_
        have hm' : m = n := by omega
        subst hm'
        exact ⟨rfl, A26, c26, by rw [List.append_assoc]; rfl⟩
theorem unarybad_d (n : Int) (h1 : -9223372036854775808 ≤ n) (h2 : n < 9223372036854775808) (hp : ¬ (0 ≤ n ∧ n ≤ 100000)) :
    Does Try.prog B w0 26 [.pointer (some ⟨g, 0, none⟩), .int .i64 n] F
      (fun r L => r = .int .i64 13 ∧ L = F) := by
  refine fn_walk Try.func26 27 rfl rfl rfl [(0, .pointer (some ⟨g, 0, none⟩)), (1, .int .i64 n)] ⟨⟨rfl, rfl⟩, ⟨rfl, rfl⟩, trivial⟩ ?_
  refine vc_seq ?_
  refine vc_region ?_
  refine vl_det (det_assign rfl) rfl ?_
  refine vl_end [(0, _), (1, _)] ⟨rfl, rfl, trivial⟩ ?_
  refine then_next ?_
  refine vc_seq ?_
  refine vc_seq ?_
  refine vc_region ?_
  refine vl_cut 10 14 [(0, _), (1, _)] (True) ⟨rfl, rfl, trivial⟩ ?_ ?_
  · skip
    refine vl_det (det_move rfl) rfl ?_
    refine vl_det (det_ptr_nil Try.underlying78 rfl rfl) rfl ?_
    refine vl_det (det_move rfl) rfl ?_
    refine vl_guard_t rfl rfl ?_
    refine vl_det (det_move rfl) rfl ?_
    refine vl_guard_t rfl rfl ?_
    refine vl_det (det_lss rfl rfl) rfl ?_
    refine vl_det (det_pick_f rfl rfl) rfl ?_
    refine vl_det (det_move rfl) rfl ?_
    refine vl_guardn rfl rfl rfl (fun h11 => ?_) (fun h11 => ?_)
    · skip
      refine vl_det (det_move rfl) rfl ?_
      refine vl_guard_t rfl rfl ?_
      refine vl_det (det_gtr rfl rfl) rfl ?_
      refine vl_det (det_pick_f rfl rfl) rfl ?_
      exact vl_cut_end ⟨rfl, rfl, trivial⟩ (by first | rfl | exact bool_to_t (by first | (exact trivial) | (exact ⟨fun _ => trivial, fun _ => by omega⟩) | omega) | exact bool_to_f (by first | (exact trivial) | (exact ⟨fun _ => trivial, fun _ => by omega⟩) | omega) | exact bool_to (by first | (exact trivial) | (exact ⟨fun _ => trivial, fun _ => by omega⟩) | omega) | exact bool_to_b (by first | (exact trivial) | (exact ⟨fun _ => trivial, fun _ => by omega⟩) | omega))
    · skip
      refine vl_guard_f rfl rfl rfl rfl ?_
      refine vl_det (det_pick_t rfl rfl) rfl ?_
      exact vl_cut_end ⟨rfl, rfl, trivial⟩ (by first | rfl | exact bool_to_t (by first | (exact trivial) | (exact ⟨fun _ => trivial, fun _ => by omega⟩) | omega) | exact bool_to_f (by first | (exact trivial) | (exact ⟨fun _ => trivial, fun _ => by omega⟩) | omega) | exact bool_to (by first | (exact trivial) | (exact ⟨fun _ => trivial, fun _ => by omega⟩) | omega) | exact bool_to_b (by first | (exact trivial) | (exact ⟨fun _ => trivial, fun _ => by omega⟩) | omega))
  · skip
    refine vl_end [(0, _), (1, _), (14, _)] ⟨rfl, rfl, rfl, trivial⟩ ?_
    refine then_next ?_
    refine vc_decideU rfl (fun h14 => ?_) (fun h14 => ?_)
    · skip
      refine vc_seq ?_
      refine vc_region ?_
      refine vl_det (det_assign rfl) rfl ?_
      refine vl_end [(4, _)] ⟨rfl, trivial⟩ ?_
      refine then_next ?_
      refine vc_ret ?_
      refine then_ret ?_
      refine ret1 rfl rfl ?_
      exact ⟨rfl, rfl⟩
    · skip
      exfalso; exact h14 trivial
theorem bytes_d (q : List Bool) (hq : q.length ≤ 8000000) : Does Try.prog B w0 28 [.pointer (some ⟨g, 0, none⟩)] (Wr g bt A c q F) (fun r L => ∃ A' c', r = .slice A' (packed q).length c' ∧ L = .own 5 1 A' (packed q).length c' (bv (packed q)) :: Wr g bt A c q F) := by
  have hpl := packed_length q
  refine fn_walk Try.func28 11 rfl rfl rfl [(0, .pointer (some ⟨g, 0, none⟩))] ⟨⟨rfl, rfl⟩, trivial⟩ ?_
  refine vc_seq ?_
  refine vc_region ?_
  refine vl_det (det_assign rfl) rfl ?_
  refine vl_end [(0, _)] ⟨rfl, trivial⟩ ?_
  refine then_next ?_
  refine vc_seq ?_
  refine vc_seq ?_
  refine vc_region ?_
  refine vl_det (det_move rfl) rfl ?_
  refine vl_det (det_ptr_nil Try.underlying78 rfl rfl) rfl ?_
  refine vl_end [(0, _), (4, _)] ⟨rfl, rfl, trivial⟩ ?_
  refine then_next ?_
  refine vc_cond_f rfl ?_
  refine vc_skip ?_
  refine then_next ?_
  refine vc_seq ?_
  refine vc_region ?_
  refine vl_det (det_move rfl) rfl ?_
  refine vl_det (det_nilCheck rfl) rfl ?_
  refine vl_det (det_fieldAddr_ Try.underlying56 rfl (by kernel_rfl) rfl rfl) rfl ?_
  refine vl_det (det_fieldAddr_ Try.underlying54 rfl (by kernel_rfl) rfl rfl) rfl ?_
  refine vl_det (det_load_blk (by kernel_rfl) rfl (by repeat (first | exact .hd | apply Sel.tl)) rfl) rfl ?_
  refine vl_call co45 rfl (clone_d (packed q) (by first | (exact Bor.own (by repeat (first | exact List.Mem.head _ | apply List.Mem.tail))) | (repeat (first | assumption | apply Bor.cons))) (by omega)) rfl ?_
  rintro _ _ ⟨A10, c10, rfl, hLL⟩
  obtain rfl := hLL.symm
  refine vl_det (det_assign rfl) rfl ?_
  refine vl_end [(2, _)] ⟨rfl, trivial⟩ ?_
  refine then_next ?_
  refine vc_ret ?_
  refine ret1 rfl rfl ?_
  exact ⟨A10, c10, rfl, rfl⟩
end Go.Proofs.Ytpgmokfhcdibhaa
