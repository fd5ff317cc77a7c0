/-
  The weight of a log, by frames. No condition.
-/
import Derived.Test.YtpamjobiohbibaaRec
namespace Go.Proofs.Ytpamjobiohbibaa
open Go.RowKit
set_option linter.unusedVariables false
variable {B : Nat} {w0 : World} {F : List Ch} {A : Option Addr} {c : Nat}
def RecC.w (x : RecC) : Nat := 16 + x.2.2.1.length + x.2.2.2.length
def wsum (L : List RecC) : Nat := (L.map RecC.w).sum
theorem wsum_snoc (L : List RecC) (x : RecC) : wsum (L ++ [x]) = wsum L + x.w := by simp [wsum]
theorem wsum_take {L : List RecC} {k : Nat} (h : k < L.length) : wsum (L.take (k + 1)) = wsum (L.take k) + (recAt L k).w := by
  rw [take_getD h (0, 0, [], []), wsum_snoc]; rfl
theorem wsum_le (L : List RecC) (k : Nat) : wsum (L.take k) ≤ wsum L := by
  have h : wsum L = wsum (L.take k) + wsum (L.drop k) := by
    rw [wsum, wsum, wsum, ← List.sum_append, ← List.map_append, List.take_append_drop]
  omega
theorem rec_one (x : RecC) : ∀ u ∈ x.cells, u.oneCell' = true := by simp [RecC.cells, Value.oneCell']
theorem rec_cells {L : List RecC} {k : Nat} (hk : k < L.length) : ∀ (q : Nat) (u : Value), (RecC.cells (recAt L k))[q]? = some u → (recs L)[k * 4 + q]? = some u := fun q u h => by
  have hq : q < 4 := by
    have := (List.getElem?_eq_some_iff.1 h).1
    simpa [RecC.cells] using this
  rw [rec_get hk hq]; exact h
set_option maxRecDepth 20000 in
theorem rweight_d (L : List RecC) (hb : Bor B w0 F 4 (.slice A L.length c) L.length (recs L)) (hl : L.length < 4611686018427387904) :
    Does Try.prog B w0 26 [.slice A L.length c] F (fun r K => ∃ v : Int, r = .int .i64 v ∧ K = F ∧ (v = 2199023255552 ∧ 1099511627776 < wsum L ∨ v = wsum L ∧ wsum L < 4611686018427387904)) := by
  refine fn_walk Try.func26 48 rfl rfl rfl [(0, .slice A L.length c)] ⟨⟨rfl, rfl⟩, trivial⟩ ?_
  refine vc_seq ?_
  refine vc_region ?_
  refine vl_det (det_assign rfl) rfl ?_
  refine vl_end [(0, _)] ⟨rfl, trivial⟩ ?_
  refine then_next ?_
  refine vc_seq ?_
  refine vc_region ?_
  refine vl_det (det_assign rfl) rfl ?_
  refine vl_end [(0, _), (3, _)] ⟨rfl, rfl, trivial⟩ ?_
  refine then_next ?_
  refine vc_seq ?_
  refine vc_seq ?_
  refine vc_region ?_
  refine vl_det (det_assign rfl) rfl ?_
  refine vl_end [(0, _), (3, _), (4, _)] ⟨rfl, rfl, rfl, trivial⟩ ?_
  refine then_next ?_
  refine vc_block ?_
  refine vc_loopJ (fun zf zL zm => ∃ (k : Nat), (k ≤ L.length ∧ wsum (L.take k) ≤ 4398046511104) ∧ L.length - k = zm ∧ Sub zf [(0, .slice A L.length c), (3, .int .i64 (wsum (L.take k))), (4, .int .i64 k)] ∧ Wk zL (F)) _ ⟨0, ⟨Nat.zero_le _, by simp [wsum]⟩, rfl, ⟨(by first | rfl | exact int_to (by omega) | exact sl_to (by omega)), (by first | rfl | exact int_to (by omega) | exact sl_to (by omega)), (by first | rfl | exact int_to (by omega) | exact sl_to (by omega)), trivial⟩, .refl _⟩ ?_
  rintro _ _ _ ⟨k, ⟨hk, hwk⟩, rfl, hs, hp⟩
  refine vc_weaken _ hs (vc_wk hp ?_)
  clear hs hp
  refine vc_seq ?_
  refine vc_seq ?_
  refine vc_region ?_
  refine vl_det (det_move rfl) rfl ?_
  refine vl_det (det_move rfl) rfl ?_
  refine vl_det (det_len_sl Try.underlying22 rfl) rfl ?_
  refine vl_det (det_lss rfl rfl) rfl ?_
  refine vl_end [(0, _), (3, _), (4, _), (8, _)] ⟨rfl, rfl, rfl, rfl, trivial⟩ ?_
  refine then_next ?_
  refine vc_decideU rfl (fun h8 => ?_) (fun h8 => ?_)
  · skip
    have hws := wsum_take (L := L) (k := k) (by omega)
    have hrw : (recAt L k).w = 16 + (recAt L k).2.2.1.length + (recAt L k).2.2.2.length := rfl
    refine vc_skip ?_
    refine then_next ?_
    refine vc_seq ?_
    refine vc_block ?_
    refine vc_seq ?_
    refine vc_seq ?_
    refine vc_region ?_
    refine vl_cut 20 30 [(0, _), (3, _), (4, _)] (1099511627776 < wsum (L.take k) ∨ 1099511627776 < (recAt L k).2.2.1.length ∨ 1099511627776 < (recAt L k).2.2.2.length) ⟨rfl, rfl, rfl, trivial⟩ ?_ ?_
    · skip
      refine vl_det (det_move rfl) rfl ?_
      refine vl_det (det_gtr rfl rfl) rfl ?_
      refine vl_det (det_move rfl) rfl ?_
      refine vl_guardn rfl rfl rfl (fun h13 => ?_) (fun h13 => ?_)
      · skip
        refine vl_det (det_move rfl) rfl ?_
        refine vl_guard_t rfl rfl ?_
        refine vl_det (det_move rfl) rfl ?_
        refine vl_guard_t rfl rfl ?_
        refine vl_det (det_indexAddr (size := 4) Try.underlying22 (by kernel_rfl) rfl rfl rfl (by omega) (by first | (exact Bor.own (by repeat (first | exact List.Mem.head _ | apply List.Mem.tail))) | (repeat (first | assumption | apply Bor.cons)))) rfl ?_
        refine vl_guard_t rfl rfl ?_
        refine vl_det (det_fieldAddr_row_ Try.underlying35 rfl (by kernel_rfl) rfl (by first | (exact Bor.own (by repeat (first | exact List.Mem.head _ | apply List.Mem.tail))) | (repeat (first | assumption | apply Bor.cons))) (by omega) rfl) rfl ?_
        refine vl_guard_t rfl rfl ?_
        refine vl_det (det_load_rowf (by kernel_rfl) rfl (by first | (exact Bor.own (by repeat (first | exact List.Mem.head _ | apply List.Mem.tail))) | (repeat (first | assumption | apply Bor.cons))) (by omega) ((rec_get (by omega) (by decide)).trans rfl)) rfl ?_
        refine vl_guard_t rfl rfl ?_
        refine vl_det (det_len_s Try.underlying9 rfl) rfl ?_
        refine vl_guard_t rfl rfl ?_
        refine vl_det (det_gtr rfl rfl) rfl ?_
        refine vl_det (det_pick_f rfl rfl) rfl ?_
        refine vl_det (det_move rfl) rfl ?_
        refine vl_guardn rfl rfl rfl (fun h22 => ?_) (fun h22 => ?_)
        · skip
          refine vl_det (det_move rfl) rfl ?_
          refine vl_guard_t rfl rfl ?_
          refine vl_det (det_move rfl) rfl ?_
          refine vl_guard_t rfl rfl ?_
          refine vl_det (det_indexAddr (size := 4) Try.underlying22 (by kernel_rfl) rfl rfl rfl (by omega) (by first | (exact Bor.own (by repeat (first | exact List.Mem.head _ | apply List.Mem.tail))) | (repeat (first | assumption | apply Bor.cons)))) rfl ?_
          refine vl_guard_t rfl rfl ?_
          refine vl_det (det_fieldAddr_row_ Try.underlying35 rfl (by kernel_rfl) rfl (by first | (exact Bor.own (by repeat (first | exact List.Mem.head _ | apply List.Mem.tail))) | (repeat (first | assumption | apply Bor.cons))) (by omega) rfl) rfl ?_
          refine vl_guard_t rfl rfl ?_
          refine vl_det (det_load_rowf (by kernel_rfl) rfl (by first | (exact Bor.own (by repeat (first | exact List.Mem.head _ | apply List.Mem.tail))) | (repeat (first | assumption | apply Bor.cons))) (by omega) ((rec_get (by omega) (by decide)).trans rfl)) rfl ?_
          refine vl_guard_t rfl rfl ?_
          refine vl_det (det_len_s Try.underlying9 rfl) rfl ?_
          refine vl_guard_t rfl rfl ?_
          refine vl_det (det_gtr rfl rfl) rfl ?_
          refine vl_det (det_pick_f rfl rfl) rfl ?_
          exact vl_cut_end ⟨rfl, rfl, rfl, trivial⟩ (by first | rfl | exact bool_to_t (by first | omega | (exact ⟨fun h => by omega, fun h => by omega⟩)) | exact bool_to_f (by first | omega | (exact ⟨fun h => by omega, fun h => by omega⟩)) | exact bool_to (by first | omega | (exact ⟨fun h => by omega, fun h => by omega⟩)) | exact bool_to_b (by first | omega | (exact ⟨fun h => by omega, fun h => by omega⟩)))
        · skip
          refine vl_guard_f rfl rfl rfl rfl ?_
          refine vl_guard_f rfl rfl rfl rfl ?_
          refine vl_guard_f rfl rfl rfl rfl ?_
          refine vl_guard_f rfl rfl rfl rfl ?_
          refine vl_guard_f rfl rfl rfl rfl ?_
          refine vl_guard_f rfl rfl rfl rfl ?_
          refine vl_det (det_pick_t rfl rfl) rfl ?_
          exact vl_cut_end ⟨rfl, rfl, rfl, trivial⟩ (by first | rfl | exact bool_to_t (by first | omega | (exact ⟨fun h => by omega, fun h => by omega⟩)) | exact bool_to_f (by first | omega | (exact ⟨fun h => by omega, fun h => by omega⟩)) | exact bool_to (by first | omega | (exact ⟨fun h => by omega, fun h => by omega⟩)) | exact bool_to_b (by first | omega | (exact ⟨fun h => by omega, fun h => by omega⟩)))
      · skip
        refine vl_guard_f rfl rfl rfl rfl ?_
        refine vl_guard_f rfl rfl rfl rfl ?_
        refine vl_guard_f rfl rfl rfl rfl ?_
        refine vl_guard_f rfl rfl rfl rfl ?_
        refine vl_guard_f rfl rfl rfl rfl ?_
        refine vl_guard_f rfl rfl rfl rfl ?_
        refine vl_det (det_pick_t rfl rfl) rfl ?_
        refine vl_det (det_move rfl) rfl ?_
        refine vl_guard_f rfl rfl rfl rfl ?_
        refine vl_guard_f rfl rfl rfl rfl ?_
        refine vl_guard_f rfl rfl rfl rfl ?_
        refine vl_guard_f rfl rfl rfl rfl ?_
        refine vl_guard_f rfl rfl rfl rfl ?_
        refine vl_guard_f rfl rfl rfl rfl ?_
        refine vl_guard_f rfl rfl rfl rfl ?_
        refine vl_det (det_pick_t rfl rfl) rfl ?_
        exact vl_cut_end ⟨rfl, rfl, rfl, trivial⟩ (by first | rfl | exact bool_to_t (by first | omega | (exact ⟨fun h => by omega, fun h => by omega⟩)) | exact bool_to_f (by first | omega | (exact ⟨fun h => by omega, fun h => by omega⟩)) | exact bool_to (by first | omega | (exact ⟨fun h => by omega, fun h => by omega⟩)) | exact bool_to_b (by first | omega | (exact ⟨fun h => by omega, fun h => by omega⟩)))
    · skip
      refine vl_end [(0, _), (3, _), (4, _), (30, _)] ⟨rfl, rfl, rfl, rfl, trivial⟩ ?_
      refine then_next ?_
      refine vc_decideU rfl (fun h30 => ?_) (fun h30 => ?_)
      · skip
        refine vc_seq ?_
        refine vc_region ?_
        refine vl_det (det_assign rfl) rfl ?_
        refine vl_end [(2, _)] ⟨rfl, trivial⟩ ?_
        refine then_next ?_
        refine vc_ret ?_
        refine then_ret ?_
        refine in_ret ?_
        refine then_ret ?_
        refine loop_ret ?_
        refine in_ret ?_
        refine then_ret ?_
        refine ret1 rfl rfl ?_
        have hwl1 := wsum_le L k
        have hwl2 := wsum_le L (k + 1)
        exact ⟨_, rfl, rfl, .inl ⟨rfl, by omega⟩⟩
      · skip
        refine vc_skip ?_
        refine then_next ?_
        refine vq_region (by kernel_rfl) (by kernel_rfl) ?_
        refine vq_det (det_move rfl) rfl ?_
        refine vq_det (det_add rfl rfl (w_i64 (by omega) (by omega))) rfl ?_
        refine vq_det (det_move rfl) rfl ?_
        refine vq_det (det_move rfl) rfl ?_
        refine vq_det (det_indexAddr (size := 4) Try.underlying22 (by kernel_rfl) rfl rfl rfl (by omega) (by first | (exact Bor.own (by repeat (first | exact List.Mem.head _ | apply List.Mem.tail))) | (repeat (first | assumption | apply Bor.cons)))) rfl ?_
        refine vq_det (det_fieldAddr_row_ Try.underlying35 rfl (by kernel_rfl) rfl (by first | (exact Bor.own (by repeat (first | exact List.Mem.head _ | apply List.Mem.tail))) | (repeat (first | assumption | apply Bor.cons))) (by omega) rfl) rfl ?_
        refine vq_det (det_load_rowf (by kernel_rfl) rfl (by first | (exact Bor.own (by repeat (first | exact List.Mem.head _ | apply List.Mem.tail))) | (repeat (first | assumption | apply Bor.cons))) (by omega) ((rec_get (by omega) (by decide)).trans rfl)) rfl ?_
        refine vq_det (det_len_s Try.underlying9 rfl) rfl ?_
        refine vq_det (det_add rfl rfl (w_i64 (by omega) (by omega))) rfl ?_
        refine vq_det (det_move rfl) rfl ?_
        refine vq_det (det_move rfl) rfl ?_
        refine vq_det (det_indexAddr (size := 4) Try.underlying22 (by kernel_rfl) rfl rfl rfl (by omega) (by first | (exact Bor.own (by repeat (first | exact List.Mem.head _ | apply List.Mem.tail))) | (repeat (first | assumption | apply Bor.cons)))) rfl ?_
        refine vq_det (det_fieldAddr_row_ Try.underlying35 rfl (by kernel_rfl) rfl (by first | (exact Bor.own (by repeat (first | exact List.Mem.head _ | apply List.Mem.tail))) | (repeat (first | assumption | apply Bor.cons))) (by omega) rfl) rfl ?_
        refine vq_det (det_load_rowf (by kernel_rfl) rfl (by first | (exact Bor.own (by repeat (first | exact List.Mem.head _ | apply List.Mem.tail))) | (repeat (first | assumption | apply Bor.cons))) (by omega) ((rec_get (by omega) (by decide)).trans rfl)) rfl ?_
        refine vq_det (det_len_s Try.underlying9 rfl) rfl ?_
        refine vq_det (det_add rfl rfl (w_i64 (by omega) (by omega))) rfl ?_
        refine vq_det (det_assign rfl) rfl ?_
        refine vq_end [(0, _), (3, _), (4, _)] ⟨rfl, rfl, rfl, trivial⟩ ?_
        refine in_normal ?_
        refine then_next ?_
        refine vc_region ?_
        refine vl_det (det_move rfl) rfl ?_
        refine vl_det (det_add rfl rfl (w_i64 (by omega) (by omega))) rfl ?_
        refine vl_det (det_assign rfl) rfl ?_
        refine vl_end [(0, _), (3, _), (4, _)] ⟨rfl, rfl, rfl, trivial⟩ ?_
        refine in_loop_ ⟨_, by omega, k + 1, ⟨by omega, by omega⟩, rfl, ⟨(by first | rfl | exact int_to (by omega) | exact sl_to (by omega)), (by first | rfl | exact int_to (by omega) | exact sl_to (by omega)), (by first | rfl | exact int_to (by omega) | exact sl_to (by omega)), trivial⟩, .refl _⟩
  · skip
    refine vc_exit ?_
    refine then_exit ?_
    refine loop_exit ?_
    refine in_eq ?_
    refine then_next ?_
    refine vc_seq ?_
    refine vc_region ?_
    refine vl_det (det_move rfl) rfl ?_
    refine vl_det (det_assign rfl) rfl ?_
    refine vl_end [(2, _)] ⟨rfl, trivial⟩ ?_
    refine then_next ?_
    refine vc_ret ?_
    refine ret1 rfl rfl ?_
    have hkl : k = L.length := by omega
    subst hkl
    rw [List.take_length] at hwk ⊢
    exact ⟨_, rfl, rfl, .inr ⟨rfl, by omega⟩⟩
theorem great_d (L : List RecC) (hb : Bor B w0 F 4 (.slice A L.length c) L.length (recs L)) (n1 n2 : Nat) (h1 : n1 ≤ 1099511627776) (h2 : n2 ≤ 1099511627776) :
    Does Try.prog B w0 10 [.slice A L.length c, .int .i64 n1, .int .i64 n2] F (fun r K => ∃ b, r = .bool b ∧ K = F ∧ (b = false → L.length ≤ n1 ∧ wsum L ≤ n2)) := by
  refine fn_walk Try.func10 17 rfl rfl rfl [(0, .slice A L.length c), (1, .int .i64 n1), (2, .int .i64 n2)] ⟨⟨rfl, rfl⟩, ⟨rfl, rfl⟩, ⟨rfl, rfl⟩, trivial⟩ ?_
  refine vc_seq ?_
  refine vc_region ?_
  refine vl_det (det_assign rfl) rfl ?_
  refine vl_end [(0, _), (1, _), (2, _)] ⟨rfl, rfl, rfl, trivial⟩ ?_
  refine then_next ?_
  refine vc_seq ?_
  refine vc_region ?_
  refine vl_det (det_move rfl) rfl ?_
  refine vl_det (det_len_sl Try.underlying22 rfl) rfl ?_
  refine vl_det (det_move rfl) rfl ?_
  refine vl_det (det_gtr rfl rfl) rfl ?_
  refine vl_det (det_move rfl) rfl ?_
  refine vl_guardn rfl rfl rfl (fun h11 => ?_) (fun h11 => ?_)
  · skip
    refine vl_det (det_move rfl) rfl ?_
    refine vl_guard_t rfl rfl ?_
    refine vl_call co26 rfl (rweight_d L hb (by omega)) rfl ?_
    rintro _ _ ⟨v, rfl, hLL, hv⟩
    obtain rfl := hLL.symm
    refine vl_guard_t rfl rfl ?_
    refine vl_det (det_move rfl) rfl ?_
    refine vl_guard_t rfl rfl ?_
    refine vl_det (det_gtr rfl rfl) rfl ?_
    refine vl_det (det_pick_f rfl rfl) rfl ?_
    refine vl_det (det_assign rfl) rfl ?_
    refine vl_end [(6, _)] ⟨rfl, trivial⟩ ?_
    refine then_next ?_
    refine vc_ret ?_
    refine ret1 rfl rfl ?_
    refine ⟨_, rfl, rfl, fun h => ?_⟩
    have h' := of_decide_eq_false h
    exact ⟨by omega, by omega⟩
  · skip
    refine vl_guard_f rfl rfl rfl rfl ?_
    refine vl_guard_f rfl rfl rfl rfl ?_
    refine vl_guard_f rfl rfl rfl rfl ?_
    refine vl_det (det_pick_t rfl rfl) rfl ?_
    refine vl_det (det_assign rfl) rfl ?_
    refine vl_end [(6, _)] ⟨rfl, trivial⟩ ?_
    refine then_next ?_
    refine vc_ret ?_
    refine ret1 rfl rfl ?_
    exact ⟨_, rfl, rfl, fun h => by cases h⟩
end Go.Proofs.Ytpamjobiohbibaa
