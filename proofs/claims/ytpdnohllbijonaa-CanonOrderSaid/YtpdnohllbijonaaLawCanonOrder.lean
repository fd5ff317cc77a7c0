/-
  'CanonOrder': of two symbols of one length the lesser one has the lesser word; of two lengths the lesser one's words, made longer, are below the others. No condition.
-/
import Derived.Test.YtpdnohllbijonaaCn3
import Derived.Test.YtpdnohllbijonaaRows
import Derived.Test.YtpdnohllbijonaaOpen
namespace Go.Proofs.Ytpdnohllbijonaa.lawCanonOrder
open Go.ChangeShapes Go.WideShapes Go.ChangeAt Go.RowKit
open Go.ChangeMaps (open_string shut_string)
set_option linter.unusedVariables false
theorem le_pow' {y k p : Nat} (h : y * 2 ^ k ≤ p) : y ≤ p := Nat.le_trans (Nat.le_mul_of_pos_right y (Nat.two_pow_pos k)) h
theorem dbl_pow {y n L p : Nat} (h : (y + 1) * 2 ^ (L - n) ≤ p) (hn : n < L) : (2 * y + 1) * 2 ^ (L - (n + 1)) ≤ p := by
  rw [show L - n = (L - (n + 1)) + 1 by omega, Nat.pow_succ, Nat.mul_comm _ 2, ← Nat.mul_assoc] at h
  exact Nat.le_trans (Nat.mul_le_mul_right _ (by omega)) h
theorem walk (w : World) (v : Value) (l : List UInt8) (hr : Rd w w.heap.size 1 v l.length (bv l)) (hm : l.length ≤ maxLen) (i : Nat) (hi : i < 65536) (j : Nat) (hj : j < 65536) :
    Calls Try.prog 6 #[v, .int .u16 i, .int .u16 j] w fun e w' => e = .returned (.bool true) ∧ Below w.heap.size w w' := by
  obtain ⟨A0, c0, rfl, _⟩ := hr.form
  have hbo : Bor w.heap.size w [] 1 (.slice A0 l.length c0) l.length (bv l) := Bor.in_ hr
  simp only [maxLen] at hm
  refine Does.law (args := [.slice A0 l.length c0, .int .u16 i, .int .u16 j]) ?_
  by_cases hg : Good l
  · have hfl := hg.1.1
    refine fn_walk Try.func6 110 rfl rfl rfl [(0, .slice A0 l.length c0), (1, .int .u16 i), (2, .int .u16 j)] ⟨⟨rfl, rfl⟩, ⟨rfl, rfl⟩, ⟨rfl, rfl⟩, trivial⟩ ?_
    refine vc_seq ?_
    refine vc_region ?_
    refine vl_det (det_assign rfl) rfl ?_
    refine vl_end [(0, _), (1, _), (2, _)] ⟨rfl, rfl, rfl, trivial⟩ ?_
    refine then_next ?_
    refine vc_seq ?_
    refine vc_seq ?_
    refine vc_region ?_
    refine vl_call co10 rfl (alive_d) rfl ?_
    rintro _ _ ⟨rfl, hLL⟩
    obtain rfl := hLL.symm
    refine vl_det (det_not_t rfl) rfl ?_
    refine vl_end [(0, _), (1, _), (2, _), (14, _)] ⟨rfl, rfl, rfl, rfl, trivial⟩ ?_
    refine then_next ?_
    refine vc_cond_f rfl ?_
    refine vc_skip ?_
    refine then_next ?_
    refine vc_seq ?_
    refine vc_region ?_
    refine vl_det (det_move rfl) rfl ?_
    refine vl_call co13 rfl (codes_d l (by first | (exact Bor.own (by repeat (first | exact List.Mem.head _ | apply List.Mem.tail))) | (repeat (first | assumption | apply Bor.cons))) hg) rfl ?_
    rintro _ _ ⟨A17, c17, rfl, hLL⟩
    obtain rfl := hLL.symm
    refine vl_det (det_move rfl) rfl ?_
    refine vl_det (det_extract rfl rfl) rfl ?_
    refine vl_det (det_extract rfl rfl) rfl ?_
    refine vl_det (det_assign rfl) rfl ?_
    refine vl_det (det_assign rfl) rfl ?_
    refine vl_end [(0, _), (1, _), (2, _), (7, _), (8, _)] ⟨rfl, rfl, rfl, rfl, rfl, trivial⟩ ?_
    refine then_next ?_
    refine vc_seq ?_
    refine vc_seq ?_
    refine vc_region ?_
    refine vl_cut 7 26 [(0, _), (1, _), (2, _), (7, _)] (l.length = 0) ⟨rfl, rfl, rfl, rfl, trivial⟩ ?_ ?_
    · skip
      refine vl_det (det_move rfl) rfl ?_
      refine vl_det (det_neq rfl rfl) rfl ?_
      refine vl_det (det_move rfl) rfl ?_
      refine vl_guardn rfl rfl rfl (fun h22 => ?_) (fun h22 => ?_)
      · skip
        refine vl_det (det_move rfl) rfl ?_
        refine vl_guard_t rfl rfl ?_
        refine vl_det (det_len_sl Try.underlying22 rfl) rfl ?_
        refine vl_guard_t rfl rfl ?_
        refine vl_det (det_eql rfl rfl) rfl ?_
        refine vl_det (det_pick_f rfl rfl) rfl ?_
        exact vl_cut_end ⟨rfl, rfl, rfl, rfl, trivial⟩ (by first | rfl | exact bool_to_t (by first | omega | simp_all) | exact bool_to_f (by first | omega | simp_all) | exact bool_to (by first | omega | simp_all) | exact bool_to_b (by first | omega | simp_all))
      · skip
        refine vl_guard_f rfl rfl rfl rfl ?_
        refine vl_guard_f rfl rfl rfl rfl ?_
        refine vl_det (det_pick_t rfl rfl) rfl ?_
        exact vl_cut_end ⟨rfl, rfl, rfl, rfl, trivial⟩ (by first | rfl | exact bool_to_t (by first | omega | simp_all) | exact bool_to_f (by first | omega | simp_all) | exact bool_to (by first | omega | simp_all) | exact bool_to_b (by first | omega | simp_all))
    · skip
      refine vl_end [(0, _), (1, _), (2, _), (7, _), (26, _)] ⟨rfl, rfl, rfl, rfl, rfl, trivial⟩ ?_
      refine then_next ?_
      refine vc_decideU rfl (fun h26 => ?_) (fun h26 => ?_)
      · skip
        refine vc_seq ?_
        refine vc_region ?_
        refine vl_det (det_move rfl) rfl ?_
        refine vl_det (det_len_sl Try.underlying27 rfl) rfl ?_
        refine vl_det (det_eql rfl rfl) rfl ?_
        refine vl_det (det_assign rfl) rfl ?_
        refine vl_end [(6, _)] ⟨rfl, trivial⟩ ?_
        refine then_next ?_
        refine vc_ret ?_
        refine then_ret ?_
        refine ret1 rfl rfl ?_
        have hl0 := h26
        simp [hl0]
      · skip
        have ha := Nat.mod_lt i (show 0 < l.length by omega)
        have hb := Nat.mod_lt j (show 0 < l.length by omega)
        refine vc_skip ?_
        refine then_next ?_
        refine vc_seq ?_
        refine vq_region (by kernel_rfl) (by kernel_rfl) ?_
        refine vq_det (det_move rfl) rfl ?_
        refine vq_det (det_conv Try.underlying30 Try.underlying3 rfl (w_i64 (by omega) (by omega))) rfl ?_
        refine vq_det (det_move rfl) rfl ?_
        refine vq_det (det_len_sl Try.underlying22 rfl) rfl ?_
        refine vq_det (det_rem rfl rfl (by omega) (tmod_nat i l.length)) rfl ?_
        refine vq_det (det_move rfl) rfl ?_
        refine vq_det (det_conv Try.underlying30 Try.underlying3 rfl (w_i64 (by omega) (by omega))) rfl ?_
        refine vq_det (det_move rfl) rfl ?_
        refine vq_det (det_len_sl Try.underlying22 rfl) rfl ?_
        refine vq_det (det_rem rfl rfl (by omega) (tmod_nat j l.length)) rfl ?_
        refine vq_det (det_assign rfl) rfl ?_
        refine vq_det (det_assign rfl) rfl ?_
        refine vq_end [(0, _), (7, _), (9, _), (10, _)] ⟨rfl, rfl, rfl, rfl, trivial⟩ ?_
        refine then_next ?_
        refine vc_seq ?_
        refine vc_seq ?_
        generalize i % l.length = a at ha ⊢
        generalize j % l.length = b at hb ⊢
        have hua := hg.1.2 _ (getD_mem ha 0)
        have hub := hg.1.2 _ (getD_mem hb 0)
        refine vq_region (by kernel_rfl) (by kernel_rfl) ?_
        refine vq_cut 44 83 [(0, _), (7, _), (9, _), (10, _)] (a = b ∨ (l.getD a 0).toNat = 0 ∨ (l.getD b 0).toNat = 0 ∨ (l.getD b 0).toNat < (l.getD a 0).toNat ∨ (l.getD a 0).toNat = (l.getD b 0).toNat ∧ b < a) ⟨rfl, rfl, rfl, rfl, trivial⟩ ?_ ?_
        · skip
          refine vq_det (det_move rfl) rfl ?_
          refine vq_det (det_move rfl) rfl ?_
          refine vq_det (det_eql rfl rfl) rfl ?_
          refine vq_det (det_move rfl) rfl ?_
          refine vq_guardn rfl rfl rfl (fun h43 => ?_) (fun h43 => ?_)
          · skip
            refine vq_det (det_move rfl) rfl ?_
            refine vq_guard_t rfl rfl ?_
            refine vq_det (det_move rfl) rfl ?_
            refine vq_guard_t rfl rfl ?_
            refine vq_det (det_indexAddr Try.underlying22 (by kernel_rfl) rfl rfl rfl (by omega) (by first | (exact Bor.own (by repeat (first | exact List.Mem.head _ | apply List.Mem.tail))) | (repeat (first | assumption | apply Bor.cons)))) rfl ?_
            refine vq_guard_t rfl rfl ?_
            refine vq_det (det_load_u8 (by kernel_rfl) rfl (by first | (exact Bor.own (by repeat (first | exact List.Mem.head _ | apply List.Mem.tail))) | (repeat (first | assumption | apply Bor.cons))) (by omega)) rfl ?_
            refine vq_guard_t rfl rfl ?_
            refine vq_det (det_eql rfl rfl) rfl ?_
            refine vq_det (det_pick_f rfl rfl) rfl ?_
            refine vq_det (det_move rfl) rfl ?_
            refine vq_guardn rfl rfl rfl (fun h50 => ?_) (fun h50 => ?_)
            · skip
              refine vq_det (det_move rfl) rfl ?_
              refine vq_guard_t rfl rfl ?_
              refine vq_det (det_move rfl) rfl ?_
              refine vq_guard_t rfl rfl ?_
              refine vq_det (det_indexAddr Try.underlying22 (by kernel_rfl) rfl rfl rfl (by omega) (by first | (exact Bor.own (by repeat (first | exact List.Mem.head _ | apply List.Mem.tail))) | (repeat (first | assumption | apply Bor.cons)))) rfl ?_
              refine vq_guard_t rfl rfl ?_
              refine vq_det (det_load_u8 (by kernel_rfl) rfl (by first | (exact Bor.own (by repeat (first | exact List.Mem.head _ | apply List.Mem.tail))) | (repeat (first | assumption | apply Bor.cons))) (by omega)) rfl ?_
              refine vq_guard_t rfl rfl ?_
              refine vq_det (det_eql rfl rfl) rfl ?_
              refine vq_det (det_pick_f rfl rfl) rfl ?_
              refine vq_det (det_move rfl) rfl ?_
              refine vq_guardn rfl rfl rfl (fun h57 => ?_) (fun h57 => ?_)
              · skip
                refine vq_det (det_move rfl) rfl ?_
                refine vq_guard_t rfl rfl ?_
                refine vq_det (det_move rfl) rfl ?_
                refine vq_guard_t rfl rfl ?_
                refine vq_det (det_indexAddr Try.underlying22 (by kernel_rfl) rfl rfl rfl (by omega) (by first | (exact Bor.own (by repeat (first | exact List.Mem.head _ | apply List.Mem.tail))) | (repeat (first | assumption | apply Bor.cons)))) rfl ?_
                refine vq_guard_t rfl rfl ?_
                refine vq_det (det_load_u8 (by kernel_rfl) rfl (by first | (exact Bor.own (by repeat (first | exact List.Mem.head _ | apply List.Mem.tail))) | (repeat (first | assumption | apply Bor.cons))) (by omega)) rfl ?_
                refine vq_guard_t rfl rfl ?_
                refine vq_det (det_move rfl) rfl ?_
                refine vq_guard_t rfl rfl ?_
                refine vq_det (det_move rfl) rfl ?_
                refine vq_guard_t rfl rfl ?_
                refine vq_det (det_indexAddr Try.underlying22 (by kernel_rfl) rfl rfl rfl (by omega) (by first | (exact Bor.own (by repeat (first | exact List.Mem.head _ | apply List.Mem.tail))) | (repeat (first | assumption | apply Bor.cons)))) rfl ?_
                refine vq_guard_t rfl rfl ?_
                refine vq_det (det_load_u8 (by kernel_rfl) rfl (by first | (exact Bor.own (by repeat (first | exact List.Mem.head _ | apply List.Mem.tail))) | (repeat (first | assumption | apply Bor.cons))) (by omega)) rfl ?_
                refine vq_guard_t rfl rfl ?_
                refine vq_det (det_gtr rfl rfl) rfl ?_
                refine vq_det (det_pick_f rfl rfl) rfl ?_
                refine vq_det (det_move rfl) rfl ?_
                refine vq_guardn rfl rfl rfl (fun h68 => ?_) (fun h68 => ?_)
                · skip
                  refine vq_det (det_move rfl) rfl ?_
                  refine vq_guard_t rfl rfl ?_
                  refine vq_det (det_move rfl) rfl ?_
                  refine vq_guard_t rfl rfl ?_
                  refine vq_det (det_indexAddr Try.underlying22 (by kernel_rfl) rfl rfl rfl (by omega) (by first | (exact Bor.own (by repeat (first | exact List.Mem.head _ | apply List.Mem.tail))) | (repeat (first | assumption | apply Bor.cons)))) rfl ?_
                  refine vq_guard_t rfl rfl ?_
                  refine vq_det (det_load_u8 (by kernel_rfl) rfl (by first | (exact Bor.own (by repeat (first | exact List.Mem.head _ | apply List.Mem.tail))) | (repeat (first | assumption | apply Bor.cons))) (by omega)) rfl ?_
                  refine vq_guard_t rfl rfl ?_
                  refine vq_det (det_move rfl) rfl ?_
                  refine vq_guard_t rfl rfl ?_
                  refine vq_det (det_move rfl) rfl ?_
                  refine vq_guard_t rfl rfl ?_
                  refine vq_det (det_indexAddr Try.underlying22 (by kernel_rfl) rfl rfl rfl (by omega) (by first | (exact Bor.own (by repeat (first | exact List.Mem.head _ | apply List.Mem.tail))) | (repeat (first | assumption | apply Bor.cons)))) rfl ?_
                  refine vq_guard_t rfl rfl ?_
                  refine vq_det (det_load_u8 (by kernel_rfl) rfl (by first | (exact Bor.own (by repeat (first | exact List.Mem.head _ | apply List.Mem.tail))) | (repeat (first | assumption | apply Bor.cons))) (by omega)) rfl ?_
                  refine vq_guard_t rfl rfl ?_
                  refine vq_det (det_eql rfl rfl) rfl ?_
                  refine vq_guard_t rfl rfl ?_
                  refine vq_det (det_move rfl) rfl ?_
                  refine vq_guardp rfl rfl rfl (fun h78 => ?_) (fun h78 => ?_)
                  · skip
                    refine vq_det (det_move rfl) rfl ?_
                    refine vq_guard_t rfl rfl ?_
                    refine vq_det (det_move rfl) rfl ?_
                    refine vq_guard_t rfl rfl ?_
                    refine vq_det (det_gtr rfl rfl) rfl ?_
                    refine vq_guard_t rfl rfl ?_
                    refine vq_det (det_pick_t rfl rfl) rfl ?_
                    refine vq_det (det_pick_f rfl rfl) rfl ?_
                    exact vq_cut_end ⟨rfl, rfl, rfl, rfl, trivial⟩ (by first | rfl | exact bool_to_t (by first | omega | simp_all) | exact bool_to_f (by first | omega | simp_all) | exact bool_to (by first | omega | simp_all) | exact bool_to_b (by first | omega | simp_all))
                  · skip
                    refine vq_guard_f rfl rfl rfl rfl ?_
                    refine vq_guard_f rfl rfl rfl rfl ?_
                    refine vq_guard_t rfl rfl ?_
                    refine vq_det (det_pick_f rfl rfl) rfl ?_
                    refine vq_det (det_pick_f rfl rfl) rfl ?_
                    exact vq_cut_end ⟨rfl, rfl, rfl, rfl, trivial⟩ (by first | rfl | exact bool_to_t (by first | omega | simp_all) | exact bool_to_f (by first | omega | simp_all) | exact bool_to (by first | omega | simp_all) | exact bool_to_b (by first | omega | simp_all))
                · skip
                  refine vq_guard_f rfl rfl rfl rfl ?_
                  refine vq_guard_f rfl rfl rfl rfl ?_
                  refine vq_guard_f rfl rfl rfl rfl ?_
                  refine vq_guard_f rfl rfl rfl rfl ?_
                  refine vq_guard_f rfl rfl rfl rfl ?_
                  refine vq_guard_f rfl rfl rfl rfl ?_
                  refine vq_guard_f rfl rfl rfl rfl ?_
                  refine vq_guard_f rfl rfl rfl rfl ?_
                  refine vq_guard_f rfl rfl rfl rfl ?_
                  refine vq_guard_u rfl rfl rfl ?_
                  refine vq_guard_u rfl rfl rfl ?_
                  refine vq_guard_u rfl rfl rfl ?_
                  refine vq_guard_f rfl rfl rfl rfl ?_
                  refine vq_det (det_pick_t rfl rfl) rfl ?_
                  exact vq_cut_end ⟨rfl, rfl, rfl, rfl, trivial⟩ (by first | rfl | exact bool_to_t (by first | omega | simp_all) | exact bool_to_f (by first | omega | simp_all) | exact bool_to (by first | omega | simp_all) | exact bool_to_b (by first | omega | simp_all))
              · skip
                refine vq_guard_f rfl rfl rfl rfl ?_
                refine vq_guard_f rfl rfl rfl rfl ?_
                refine vq_guard_f rfl rfl rfl rfl ?_
                refine vq_guard_f rfl rfl rfl rfl ?_
                refine vq_guard_f rfl rfl rfl rfl ?_
                refine vq_guard_f rfl rfl rfl rfl ?_
                refine vq_guard_f rfl rfl rfl rfl ?_
                refine vq_guard_f rfl rfl rfl rfl ?_
                refine vq_det (det_pick_t rfl rfl) rfl ?_
                refine vq_det (det_move rfl) rfl ?_
                refine vq_guard_f rfl rfl rfl rfl ?_
                refine vq_guard_f rfl rfl rfl rfl ?_
                refine vq_guard_f rfl rfl rfl rfl ?_
                refine vq_guard_f rfl rfl rfl rfl ?_
                refine vq_guard_f rfl rfl rfl rfl ?_
                refine vq_guard_f rfl rfl rfl rfl ?_
                refine vq_guard_f rfl rfl rfl rfl ?_
                refine vq_guard_f rfl rfl rfl rfl ?_
                refine vq_guard_f rfl rfl rfl rfl ?_
                refine vq_guard_f rfl rfl rfl rfl ?_
                refine vq_guard_u rfl rfl rfl ?_
                refine vq_guard_u rfl rfl rfl ?_
                refine vq_guard_u rfl rfl rfl ?_
                refine vq_guard_f rfl rfl rfl rfl ?_
                refine vq_det (det_pick_t rfl rfl) rfl ?_
                exact vq_cut_end ⟨rfl, rfl, rfl, rfl, trivial⟩ (by first | rfl | exact bool_to_t (by first | omega | simp_all) | exact bool_to_f (by first | omega | simp_all) | exact bool_to (by first | omega | simp_all) | exact bool_to_b (by first | omega | simp_all))
            · skip
              refine vq_guard_f rfl rfl rfl rfl ?_
              refine vq_guard_f rfl rfl rfl rfl ?_
              refine vq_guard_f rfl rfl rfl rfl ?_
              refine vq_guard_f rfl rfl rfl rfl ?_
              refine vq_det (det_pick_t rfl rfl) rfl ?_
              refine vq_det (det_move rfl) rfl ?_
              refine vq_guard_f rfl rfl rfl rfl ?_
              refine vq_guard_f rfl rfl rfl rfl ?_
              refine vq_guard_f rfl rfl rfl rfl ?_
              refine vq_guard_f rfl rfl rfl rfl ?_
              refine vq_guard_f rfl rfl rfl rfl ?_
              refine vq_guard_f rfl rfl rfl rfl ?_
              refine vq_guard_f rfl rfl rfl rfl ?_
              refine vq_guard_f rfl rfl rfl rfl ?_
              refine vq_guard_f rfl rfl rfl rfl ?_
              refine vq_det (det_pick_t rfl rfl) rfl ?_
              refine vq_det (det_move rfl) rfl ?_
              refine vq_guard_f rfl rfl rfl rfl ?_
              refine vq_guard_f rfl rfl rfl rfl ?_
              refine vq_guard_f rfl rfl rfl rfl ?_
              refine vq_guard_f rfl rfl rfl rfl ?_
              refine vq_guard_f rfl rfl rfl rfl ?_
              refine vq_guard_f rfl rfl rfl rfl ?_
              refine vq_guard_f rfl rfl rfl rfl ?_
              refine vq_guard_f rfl rfl rfl rfl ?_
              refine vq_guard_f rfl rfl rfl rfl ?_
              refine vq_guard_f rfl rfl rfl rfl ?_
              refine vq_guard_u rfl rfl rfl ?_
              refine vq_guard_u rfl rfl rfl ?_
              refine vq_guard_u rfl rfl rfl ?_
              refine vq_guard_f rfl rfl rfl rfl ?_
              refine vq_det (det_pick_t rfl rfl) rfl ?_
              exact vq_cut_end ⟨rfl, rfl, rfl, rfl, trivial⟩ (by first | rfl | exact bool_to_t (by first | omega | simp_all) | exact bool_to_f (by first | omega | simp_all) | exact bool_to (by first | omega | simp_all) | exact bool_to_b (by first | omega | simp_all))
          · skip
            refine vq_guard_f rfl rfl rfl rfl ?_
            refine vq_guard_f rfl rfl rfl rfl ?_
            refine vq_guard_f rfl rfl rfl rfl ?_
            refine vq_guard_f rfl rfl rfl rfl ?_
            refine vq_det (det_pick_t rfl rfl) rfl ?_
            refine vq_det (det_move rfl) rfl ?_
            refine vq_guard_f rfl rfl rfl rfl ?_
            refine vq_guard_f rfl rfl rfl rfl ?_
            refine vq_guard_f rfl rfl rfl rfl ?_
            refine vq_guard_f rfl rfl rfl rfl ?_
            refine vq_guard_f rfl rfl rfl rfl ?_
            refine vq_det (det_pick_t rfl rfl) rfl ?_
            refine vq_det (det_move rfl) rfl ?_
            refine vq_guard_f rfl rfl rfl rfl ?_
            refine vq_guard_f rfl rfl rfl rfl ?_
            refine vq_guard_f rfl rfl rfl rfl ?_
            refine vq_guard_f rfl rfl rfl rfl ?_
            refine vq_guard_f rfl rfl rfl rfl ?_
            refine vq_guard_f rfl rfl rfl rfl ?_
            refine vq_guard_f rfl rfl rfl rfl ?_
            refine vq_guard_f rfl rfl rfl rfl ?_
            refine vq_guard_f rfl rfl rfl rfl ?_
            refine vq_det (det_pick_t rfl rfl) rfl ?_
            refine vq_det (det_move rfl) rfl ?_
            refine vq_guard_f rfl rfl rfl rfl ?_
            refine vq_guard_f rfl rfl rfl rfl ?_
            refine vq_guard_f rfl rfl rfl rfl ?_
            refine vq_guard_f rfl rfl rfl rfl ?_
            refine vq_guard_f rfl rfl rfl rfl ?_
            refine vq_guard_f rfl rfl rfl rfl ?_
            refine vq_guard_f rfl rfl rfl rfl ?_
            refine vq_guard_f rfl rfl rfl rfl ?_
            refine vq_guard_f rfl rfl rfl rfl ?_
            refine vq_guard_f rfl rfl rfl rfl ?_
            refine vq_guard_u rfl rfl rfl ?_
            refine vq_guard_u rfl rfl rfl ?_
            refine vq_guard_u rfl rfl rfl ?_
            refine vq_guard_f rfl rfl rfl rfl ?_
            refine vq_det (det_pick_t rfl rfl) rfl ?_
            exact vq_cut_end ⟨rfl, rfl, rfl, rfl, trivial⟩ (by first | rfl | exact bool_to_t (by first | omega | simp_all) | exact bool_to_f (by first | omega | simp_all) | exact bool_to (by first | omega | simp_all) | exact bool_to_b (by first | omega | simp_all))
        · skip
          refine vq_end [(0, _), (7, _), (9, _), (10, _), (83, _)] ⟨rfl, rfl, rfl, rfl, rfl, trivial⟩ ?_
          refine then_next ?_
          refine vc_decideU rfl (fun h83 => ?_) (fun h83 => ?_)
          · skip
            refine vc_seq ?_
            refine vc_region ?_
            refine vl_det (det_assign rfl) rfl ?_
            refine vl_end [(6, _)] ⟨rfl, trivial⟩ ?_
            refine then_next ?_
            refine vc_ret ?_
            refine then_ret ?_
            refine ret1 rfl rfl ?_
            rfl
          · skip
            have hsb := code_small hg hb (by omega)
            have hsa := code_small hg ha (by omega)
            have hor := order_codes (b := b) ha (by omega) (by omega)
            refine vc_skip ?_
            refine then_next ?_
            refine vc_seq ?_
            refine vc_region ?_
            refine vl_det (det_move rfl) rfl ?_
            refine vl_det (det_move rfl) rfl ?_
            refine vl_det (det_indexAddr Try.underlying27 (by kernel_rfl) rfl rfl rfl (by omega) (by first | (exact Bor.own (by repeat (first | exact List.Mem.head _ | apply List.Mem.tail))) | (repeat (first | assumption | apply Bor.cons)))) rfl ?_
            refine vl_det (det_load_int (by kernel_rfl) rfl (by first | (exact Bor.own (by repeat (first | exact List.Mem.head _ | apply List.Mem.tail))) | (repeat (first | assumption | apply Bor.cons))) (by omega)) rfl ?_
            rw [codesL_get l ha, code_val hg ha (by omega)]
            refine vl_det (det_conv Try.underlying30 Try.underlying3 rfl (w_i64 (by omega) (by omega))) rfl ?_
            refine vl_det (det_assign rfl) rfl ?_
            refine vl_end [(0, _), (7, _), (9, _), (10, _), (11, _)] ⟨rfl, rfl, rfl, rfl, rfl, trivial⟩ ?_
            refine then_next ?_
            refine vc_seq ?_
            refine vc_seq ?_
            refine vc_region ?_
            refine vl_det (det_move rfl) rfl ?_
            refine vl_det (det_move rfl) rfl ?_
            refine vl_det (det_indexAddr Try.underlying22 (by kernel_rfl) rfl rfl rfl (by omega) (by first | (exact Bor.own (by repeat (first | exact List.Mem.head _ | apply List.Mem.tail))) | (repeat (first | assumption | apply Bor.cons)))) rfl ?_
            refine vl_det (det_load_u8 (by kernel_rfl) rfl (by first | (exact Bor.own (by repeat (first | exact List.Mem.head _ | apply List.Mem.tail))) | (repeat (first | assumption | apply Bor.cons))) (by omega)) rfl ?_
            refine vl_det (det_assign rfl) rfl ?_
            refine vl_end [(0, _), (7, _), (10, _), (11, _), (12, _)] ⟨rfl, rfl, rfl, rfl, rfl, trivial⟩ ?_
            refine then_next ?_
            refine vc_block ?_
            refine vc_loopJ (fun zf zL zm => ∃ (n y : Nat), (((l.getD a 0).toNat ≤ n ∧ n ≤ (l.getD b 0).toNat) ∧ (y + 1) * 2 ^ ((l.getD b 0).toNat - n) ≤ place l (l.getD b 0).toNat b) ∧ (l.getD b 0).toNat - n = zm ∧ Sub zf [(0, .slice A0 l.length c0), (7, .slice A17 l.length c17), (10, .int .i64 b), (11, .int .i64 (y : Int)), (12, .int .u8 (n : Int))] ∧ Wk zL ([.own 30 1 A17 l.length c17 (ints .u16 (codesL l))])) _ ⟨(l.getD a 0).toNat, place l (l.getD a 0).toNat a, ⟨⟨by omega, by omega⟩, hor⟩, rfl, ⟨(by first | rfl | exact int_to (by omega)), (by first | rfl | exact int_to (by omega)), (by first | rfl | exact int_to (by omega)), (by first | rfl | exact int_to (by omega)), (by first | rfl | exact int_to (by omega)), trivial⟩, .refl _⟩ ?_
            rintro _ _ _ ⟨n, y, ⟨⟨hn1, hn2⟩, hy⟩, rfl, hs, hp⟩
            refine vc_weaken _ hs (vc_wk hp ?_)
            clear hs hp
            have hyl := le_pow' hy
            refine vc_seq ?_
            refine vc_seq ?_
            refine vc_region ?_
            refine vl_det (det_move rfl) rfl ?_
            refine vl_det (det_move rfl) rfl ?_
            refine vl_det (det_move rfl) rfl ?_
            refine vl_det (det_indexAddr Try.underlying22 (by kernel_rfl) rfl rfl rfl (by omega) (by first | (exact Bor.own (by repeat (first | exact List.Mem.head _ | apply List.Mem.tail))) | (repeat (first | assumption | apply Bor.cons)))) rfl ?_
            refine vl_det (det_load_u8 (by kernel_rfl) rfl (by first | (exact Bor.own (by repeat (first | exact List.Mem.head _ | apply List.Mem.tail))) | (repeat (first | assumption | apply Bor.cons))) (by omega)) rfl ?_
            refine vl_det (det_lss rfl rfl) rfl ?_
            refine vl_end [(0, _), (7, _), (10, _), (11, _), (12, _), (98, _)] ⟨rfl, rfl, rfl, rfl, rfl, rfl, trivial⟩ ?_
            refine then_next ?_
            refine vc_decideU rfl (fun h98 => ?_) (fun h98 => ?_)
            · skip
              refine vc_skip ?_
              refine then_next ?_
              refine vc_seq ?_
              refine vc_block ?_
              refine vc_region ?_
              refine vl_det (det_move rfl) rfl ?_
              refine vl_det (det_mul rfl rfl (w_i64 (by omega) (by omega))) rfl ?_
              refine vl_det (det_assign rfl) rfl ?_
              refine vl_end [(0, _), (7, _), (10, _), (11, _), (12, _)] ⟨rfl, rfl, rfl, rfl, rfl, trivial⟩ ?_
              refine in_normal ?_
              refine then_next ?_
              refine vc_region ?_
              refine vl_det (det_move rfl) rfl ?_
              refine vl_det (det_add rfl rfl (w_u8 (by omega) (by omega))) rfl ?_
              refine vl_det (det_assign rfl) rfl ?_
              refine vl_end [(0, _), (7, _), (10, _), (11, _), (12, _)] ⟨rfl, rfl, rfl, rfl, rfl, trivial⟩ ?_
              refine in_loop_ ⟨_, by omega, n + 1, 2 * y, ⟨⟨by omega, by omega⟩, dbl_pow hy (by omega)⟩, rfl, ⟨(by first | rfl | exact int_to (by omega)), (by first | rfl | exact int_to (by omega)), (by first | rfl | exact int_to (by omega)), (by first | rfl | exact int_to (by omega)), (by first | rfl | exact int_to (by omega)), trivial⟩, .refl _⟩
            · skip
              refine vc_exit ?_
              refine then_exit ?_
              refine loop_exit ?_
              refine in_eq ?_
              refine then_next ?_
              refine vc_seq ?_
              refine vc_region ?_
              refine vl_det (det_move rfl) rfl ?_
              refine vl_det (det_move rfl) rfl ?_
              refine vl_det (det_move rfl) rfl ?_
              refine vl_det (det_indexAddr Try.underlying27 (by kernel_rfl) rfl rfl rfl (by omega) (by first | (exact Bor.own (by repeat (first | exact List.Mem.head _ | apply List.Mem.tail))) | (repeat (first | assumption | apply Bor.cons)))) rfl ?_
              refine vl_det (det_load_int (by kernel_rfl) rfl (by first | (exact Bor.own (by repeat (first | exact List.Mem.head _ | apply List.Mem.tail))) | (repeat (first | assumption | apply Bor.cons))) (by omega)) rfl ?_
              rw [codesL_get l hb, code_val hg hb (by omega)]
              refine vl_det (det_conv Try.underlying30 Try.underlying3 rfl (w_i64 (by omega) (by omega))) rfl ?_
              refine vl_det (det_lss rfl rfl) rfl ?_
              refine vl_det (det_assign rfl) rfl ?_
              refine vl_end [(6, _)] ⟨rfl, trivial⟩ ?_
              refine then_next ?_
              refine vc_ret ?_
              refine ret1 rfl rfl ?_
              rw [decide_eq_true (by omega)]
  · skip
    refine fn_walk Try.func6 110 rfl rfl rfl [(0, .slice A0 l.length c0), (1, .int .u16 i), (2, .int .u16 j)] ⟨⟨rfl, rfl⟩, ⟨rfl, rfl⟩, ⟨rfl, rfl⟩, trivial⟩ ?_
    refine vc_seq ?_
    refine vc_region ?_
    refine vl_det (det_assign rfl) rfl ?_
    refine vl_end [(0, _), (1, _), (2, _)] ⟨rfl, rfl, rfl, trivial⟩ ?_
    refine then_next ?_
    refine vc_seq ?_
    refine vc_seq ?_
    refine vc_region ?_
    refine vl_call co10 rfl (alive_d) rfl ?_
    rintro _ _ ⟨rfl, hLL⟩
    obtain rfl := hLL.symm
    refine vl_det (det_not_t rfl) rfl ?_
    refine vl_end [(0, _), (1, _), (2, _), (14, _)] ⟨rfl, rfl, rfl, rfl, trivial⟩ ?_
    refine then_next ?_
    refine vc_cond_f rfl ?_
    refine vc_skip ?_
    refine then_next ?_
    refine vc_seq ?_
    refine vc_region ?_
    refine vl_det (det_move rfl) rfl ?_
    refine vl_call co13 rfl (codes_bad l (by first | (exact Bor.own (by repeat (first | exact List.Mem.head _ | apply List.Mem.tail))) | (repeat (first | assumption | apply Bor.cons))) hg) rfl ?_
    rintro _ _ ⟨rfl, hLL⟩
    obtain rfl := hLL.symm
    refine vl_det (det_move rfl) rfl ?_
    refine vl_det (det_extract rfl rfl) rfl ?_
    refine vl_det (det_extract rfl rfl) rfl ?_
    refine vl_det (det_assign rfl) rfl ?_
    refine vl_det (det_assign rfl) rfl ?_
    refine vl_end [(0, _), (1, _), (2, _), (7, _), (8, _)] ⟨rfl, rfl, rfl, rfl, rfl, trivial⟩ ?_
    refine then_next ?_
    refine vc_seq ?_
    refine vc_seq ?_
    refine vc_region ?_
    refine vl_cut 7 26 [(0, _), (1, _), (2, _), (7, _)] (True) ⟨rfl, rfl, rfl, rfl, trivial⟩ ?_ ?_
    · skip
      refine vl_det (det_move rfl) rfl ?_
      refine vl_det (det_neq rfl rfl) rfl ?_
      refine vl_det (det_move rfl) rfl ?_
      refine vl_guardn rfl rfl rfl (fun h22 => ?_) (fun h22 => ?_)
      · skip
        refine vl_det (det_move rfl) rfl ?_
        refine vl_guard_t rfl rfl ?_
        refine vl_det (det_len_sl Try.underlying22 rfl) rfl ?_
        refine vl_guard_t rfl rfl ?_
        refine vl_det (det_eql rfl rfl) rfl ?_
        refine vl_det (det_pick_f rfl rfl) rfl ?_
        exact vl_cut_end ⟨rfl, rfl, rfl, rfl, trivial⟩ (by first | rfl | exact bool_to_t (by first | omega | simp_all) | exact bool_to_f (by first | omega | simp_all) | exact bool_to (by first | omega | simp_all) | exact bool_to_b (by first | omega | simp_all))
      · skip
        refine vl_guard_f rfl rfl rfl rfl ?_
        refine vl_guard_f rfl rfl rfl rfl ?_
        refine vl_det (det_pick_t rfl rfl) rfl ?_
        exact vl_cut_end ⟨rfl, rfl, rfl, rfl, trivial⟩ (by first | rfl | exact bool_to_t (by first | omega | simp_all) | exact bool_to_f (by first | omega | simp_all) | exact bool_to (by first | omega | simp_all) | exact bool_to_b (by first | omega | simp_all))
    · skip
      refine vl_end [(0, _), (1, _), (2, _), (7, _), (26, _)] ⟨rfl, rfl, rfl, rfl, rfl, trivial⟩ ?_
      refine then_next ?_
      refine vc_decideU rfl (fun h26 => ?_) (fun h26 => ?_)
      · skip
        refine vc_seq ?_
        refine vc_region ?_
        refine vl_det (det_move rfl) rfl ?_
        refine vl_det (det_len_sl Try.underlying27 rfl) rfl ?_
        refine vl_det (det_eql rfl rfl) rfl ?_
        refine vl_det (det_assign rfl) rfl ?_
        refine vl_end [(6, _)] ⟨rfl, trivial⟩ ?_
        refine then_next ?_
        refine vc_ret ?_
        refine then_ret ?_
        refine ret1 rfl rfl ?_
        rfl
      · skip
        exfalso; exact h26 trivial
theorem own : ownKnob Try.prog.godebug = none := by kernel_rfl
theorem laidOut : laidOutB Try.prog = true := by kernel_rfl
set_option maxRecDepth 100000 in
theorem lifted (os : Os) (started : os.Started) (H : Type) (enc : TypeId × Value → H) :
    ReturnsInHanded {} Try.checked os 6 .any (Rows.canonOrderSpec.pre6 enc Try.prog Try.f6 Rows.canonOrderRow.domain false) (Rows.canonOrderSpec.post enc Try.prog Try.f6 false true false false) := by
  refine returnsInHanded_of_change (C := Try.checked) own started (by kernel_rfl) Try.func6
    (ChangeSpec.witness6 (enc := enc) (C := Try.checked) false ⟨#[], #[.slice none 0 0, .int .u16 0, .int .u16 0], []⟩ 8 (by kernel_rfl) (by kernel_rfl) (by kernel_rfl) (by kernel_rfl)) ?_
  intro W base args ds gs before hval0 hW hcnd _
  have hval : ∀ (j : Nat) t v, Try.f6.params[j]? = some t → args[j]? = some v → Value.okWide Try.prog W .any base t v := hval0
  have hW' := hW
  obtain ⟨p, q, hA0, hV, rfl, hfz, hnd⟩ := hW
  have hA : DataW.TrodAll enc Try.prog W 0 (fun _ => true) true Try.f6.params.toList args.toList ds p := hA0
  rw [Try.params6] at hA hval
  obtain ⟨v0', vs0, d0, ds0, p0, q0, hargs, rfl, rfl, h0', r0⟩ := trodAll_cons hA
  obtain ⟨v1', vs1, d1, ds1, p1, q1, rfl, rfl, rfl, h1', r1⟩ := trodAll_cons r0
  obtain ⟨v2', vs2, d2, ds2, p2, q2, rfl, rfl, rfl, h2', r2⟩ := trodAll_cons r1
  obtain ⟨rfl, rfl, rfl⟩ := trodAll_nil r2
  obtain rfl : args = #[v0', v1', v2'] := by cases args; simp_all
  obtain ⟨rfl, rfl⟩ := trodVars_none hV
  have k0 := h0'
  have lt0 : ∀ x ∈ p0, x.block < W.heap.size := by obtain ⟨m, hm⟩ := k0; exact DataW.trod_lt m _ _ _ hm
  obtain ⟨A0, n0, c0, rfl⟩ := okWide_slice Try.underlying22 (hval 0 22 v0' rfl rfl)
  obtain ⟨⟨u0, L0⟩, e0, hr0, ho0, hm0⟩ := DecT.arg (dec_slice Try.underlying22 (by kernel_rfl : Try.prog.cellsOf 5 = 1) (by omega) (fun _ => rfl) (dec_u8 (w := W) Try.underlying5)) k0
  obtain rfl := cells_slice A0 n0 c0 rfl e0
  rw [flatMap_bv] at hr0
  have k1 := h1'
  have lt1 : ∀ x ∈ p1, x.block < W.heap.size := by obtain ⟨m, hm⟩ := k1; exact DataW.trod_lt m _ _ _ hm
  obtain ⟨a1, rfl, hd1, hp1, w1⟩ := open_int Try.underlying30 (hval 1 30 v1' rfl rfl) h1'
  have bd1 := bounds_u16 w1
  obtain ⟨n1, rfl⟩ := Int.eq_ofNat_of_zero_le bd1.1
  have k2 := h2'
  have lt2 : ∀ x ∈ p2, x.block < W.heap.size := by obtain ⟨m, hm⟩ := k2; exact DataW.trod_lt m _ _ _ hm
  obtain ⟨a2, rfl, hd2, hp2, w2⟩ := open_int Try.underlying30 (hval 2 30 v2' rfl rfl) h2'
  have bd2 := bounds_u16 w2
  obtain ⟨n2, rfl⟩ := Int.eq_ofNat_of_zero_le bd2.1
  clear hA0 hval0
  refine (walk W _ L0 hr0 hm0 n1 (by omega) n2 (by omega)).mono fun e W' ⟨he, bel⟩ => ?_
  subst he
  exact ⟨_, rfl, _, _, _, [], _, [], hW', trodAll_mk1 (shut_bool Try.underlying4 _), (trodAll_cons_mk (Below.trod laidOut (by kernel_rfl) (of_decide_eq_true (by kernel_rfl)) k0 bel lt0) (trodAll_cons_mk (Below.trod laidOut (by kernel_rfl) (of_decide_eq_true (by kernel_rfl)) k1 bel lt1) (trodAll_cons_mk (Below.trod laidOut (by kernel_rfl) (of_decide_eq_true (by kernel_rfl)) k2 bel lt2) trodAll_mk0))), rfl, bel.frame _, fun h => by cases h⟩

theorem over : Rows.canonOrderRow.holds Try.pinned (OpenSpec.ofChange Rows.canonOrderSpec) :=
  OpenClaim.holds_of_wide 6 Try.f6 rfl rfl rfl rfl rfl rfl rfl ⟨rfl, rfl, rfl, rfl, rfl⟩ rfl rfl rfl rfl rfl (by kernel_rfl) Try.func6 (by kernel_rfl)
    (of_decide_eq_true (by kernel_rfl)) (by unfold Func.isWrapper; first | (rw [if_pos (by decide +kernel)]; kernel_rfl) | (rw [if_neg (by decide +kernel)]; exact ⟨rfl, rfl⟩))
    (fun os started H enc _ => lifted os started H enc)

theorem proved : Rows.CanonOrderSaid := over
#print axioms proved
end Go.Proofs.Ytpdnohllbijonaa.lawCanonOrder
