/-
  bits.Writer and bits.Reader where there is none, by frames. No condition.
-/
import Derived.Test.YtkllhnnbokkhnaaBitLaw
import Derived.Test.YtkllhnnbokkhnaaBitRd
namespace Go.Proofs.Ytkllhnnbokkhnaa
open Go.RowKit
set_option linter.unusedVariables false
variable {B : Nat} {w0 : World} {F : List Ch} {A : Option Addr} {c g : Nat}
theorem nput_d (v n : Int) : Does Try.prog B w0 9 [.pointer none, .int .u64 v, .int .i64 n] F (fun r L => r = .int .i64 13 ∧ L = F) := by
  refine fn_walk Try.func9 42 rfl rfl rfl [(0, .pointer none), (1, .int .u64 v), (2, .int .i64 n)] ⟨⟨rfl, rfl⟩, ⟨rfl, rfl⟩, ⟨rfl, rfl⟩, trivial⟩ ?_
  refine vc_seq ?_
  refine vc_region ?_
  refine vl_det (det_assign rfl) rfl ?_
  refine vl_end [(0, _), (1, _), (2, _)] ⟨rfl, rfl, rfl, trivial⟩ ?_
  refine then_next ?_
  refine vc_seq ?_
  refine vc_seq ?_
  refine vc_region ?_
  refine vl_cut 20 27 [(0, _), (1, _), (2, _)] (True) ⟨rfl, rfl, rfl, trivial⟩ ?_ ?_
  · skip
    refine vl_det (det_move rfl) rfl ?_
    refine vl_det (det_ptr_nil Try.underlying55 rfl rfl) rfl ?_
    refine vl_det (det_move rfl) rfl ?_
    refine vl_guard rfl rfl rfl (fun h10 => ?_) (fun h10 => ?_)
    · skip
      refine vl_det (det_move rfl) rfl ?_
      refine vl_guard_t rfl rfl ?_
      refine vl_det (det_lss rfl rfl) rfl ?_
      refine vl_det (det_pick_f rfl rfl) rfl ?_
      refine vl_det (det_move rfl) rfl ?_
      refine vl_guardn rfl rfl rfl (fun h14 => ?_) (fun h14 => ?_)
      · skip
        refine vl_det (det_move rfl) rfl ?_
        refine vl_guard_t rfl rfl ?_
        refine vl_det (det_gtr rfl rfl) rfl ?_
        refine vl_det (det_pick_f rfl rfl) rfl ?_
        refine vl_det (det_move rfl) rfl ?_
        refine vl_guardn rfl rfl rfl (fun h18 => ?_) (fun h18 => ?_)
        · skip
          refine vl_det (det_move rfl) rfl ?_
          refine vl_guard_t rfl rfl ?_
          refine vl_det (det_lss rfl rfl) rfl ?_
          refine vl_guard_t rfl rfl ?_
          refine vl_det (det_move rfl) rfl ?_
          refine vl_guardp rfl rfl rfl (fun h21 => ?_) (fun h21 => ?_)
          · skip
            refine vl_det (det_move rfl) rfl ?_
            refine vl_guard_t rfl rfl ?_
            refine vl_det (det_move rfl) rfl ?_
            refine vl_guard_t rfl rfl ?_
            refine vl_det (det_shr rfl rfl (by omega) rfl) rfl ?_
            refine vl_guard_t rfl rfl ?_
            refine vl_det (det_neq rfl rfl) rfl ?_
            refine vl_guard_t rfl rfl ?_
            refine vl_det (det_pick_t rfl rfl) rfl ?_
            refine vl_det (det_pick_f rfl rfl) rfl ?_
            exact vl_cut_end ⟨rfl, rfl, rfl, trivial⟩ (by first | rfl | exact bool_to_t (by first | (exact trivial) | (simp at h10; done)) | exact bool_to_f (by first | (exact trivial) | (simp at h10; done)) | exact bool_to (by first | (exact trivial) | (simp at h10; done)) | exact bool_to_b (by first | (exact trivial) | (simp at h10; done)))
          · skip
            refine vl_guard_f rfl rfl rfl rfl ?_
            refine vl_guard_f rfl rfl rfl rfl ?_
            refine vl_guard_f rfl rfl rfl rfl ?_
            refine vl_guard_t rfl rfl ?_
            refine vl_det (det_pick_f rfl rfl) rfl ?_
            refine vl_det (det_pick_f rfl rfl) rfl ?_
            exact vl_cut_end ⟨rfl, rfl, rfl, trivial⟩ (by first | rfl | exact bool_to_t (by first | (exact trivial) | (simp at h10; done)) | exact bool_to_f (by first | (exact trivial) | (simp at h10; done)) | exact bool_to (by first | (exact trivial) | (simp at h10; done)) | exact bool_to_b (by first | (exact trivial) | (simp at h10; done)))
        · skip
          refine vl_guard_f rfl rfl rfl rfl ?_
          refine vl_guard_f rfl rfl rfl rfl ?_
          refine vl_guard_u rfl rfl rfl ?_
          refine vl_guard_u rfl rfl rfl ?_
          refine vl_guard_u rfl rfl rfl ?_
          refine vl_guard_u rfl rfl rfl ?_
          refine vl_guard_f rfl rfl rfl rfl ?_
          refine vl_det (det_pick_t rfl rfl) rfl ?_
          exact vl_cut_end ⟨rfl, rfl, rfl, trivial⟩ (by first | rfl | exact bool_to_t (by first | (exact trivial) | (simp at h10; done)) | exact bool_to_f (by first | (exact trivial) | (simp at h10; done)) | exact bool_to (by first | (exact trivial) | (simp at h10; done)) | exact bool_to_b (by first | (exact trivial) | (simp at h10; done)))
      · skip
        refine vl_guard_f rfl rfl rfl rfl ?_
        refine vl_det (det_pick_t rfl rfl) rfl ?_
        refine vl_det (det_move rfl) rfl ?_
        refine vl_guard_f rfl rfl rfl rfl ?_
        refine vl_guard_f rfl rfl rfl rfl ?_
        refine vl_guard_f rfl rfl rfl rfl ?_
        refine vl_guard_u rfl rfl rfl ?_
        refine vl_guard_u rfl rfl rfl ?_
        refine vl_guard_u rfl rfl rfl ?_
        refine vl_guard_u rfl rfl rfl ?_
        refine vl_guard_f rfl rfl rfl rfl ?_
        refine vl_det (det_pick_t rfl rfl) rfl ?_
        exact vl_cut_end ⟨rfl, rfl, rfl, trivial⟩ (by first | rfl | exact bool_to_t (by first | (exact trivial) | (simp at h10; done)) | exact bool_to_f (by first | (exact trivial) | (simp at h10; done)) | exact bool_to (by first | (exact trivial) | (simp at h10; done)) | exact bool_to_b (by first | (exact trivial) | (simp at h10; done)))
    · skip
      refine vl_guard_f rfl rfl rfl rfl ?_
      refine vl_det (det_pick_t rfl rfl) rfl ?_
      refine vl_det (det_move rfl) rfl ?_
      refine vl_guard_f rfl rfl rfl rfl ?_
      refine vl_guard_f rfl rfl rfl rfl ?_
      refine vl_det (det_pick_t rfl rfl) rfl ?_
      refine vl_det (det_move rfl) rfl ?_
      refine vl_guard_f rfl rfl rfl rfl ?_
      refine vl_guard_f rfl rfl rfl rfl ?_
      refine vl_guard_f rfl rfl rfl rfl ?_
      refine vl_guard_u rfl rfl rfl ?_
      refine vl_guard_u rfl rfl rfl ?_
      refine vl_guard_u rfl rfl rfl ?_
      refine vl_guard_u rfl rfl rfl ?_
      refine vl_guard_f rfl rfl rfl rfl ?_
      refine vl_det (det_pick_t rfl rfl) rfl ?_
      exact vl_cut_end ⟨rfl, rfl, rfl, trivial⟩ (by first | rfl | exact bool_to_t (by first | (exact trivial) | (simp at h10; done)) | exact bool_to_f (by first | (exact trivial) | (simp at h10; done)) | exact bool_to (by first | (exact trivial) | (simp at h10; done)) | exact bool_to_b (by first | (exact trivial) | (simp at h10; done)))
  · skip
    refine vl_end [(0, _), (1, _), (2, _), (27, _)] ⟨rfl, rfl, rfl, rfl, trivial⟩ ?_
    refine then_next ?_
    refine vc_decideU rfl (fun h27 => ?_) (fun h27 => ?_)
    · skip
      refine vc_seq ?_
      refine vc_region ?_
      refine vl_det (det_assign rfl) rfl ?_
      refine vl_end [(6, _)] ⟨rfl, trivial⟩ ?_
      refine then_next ?_
      refine vc_ret ?_
      refine then_ret ?_
      refine ret1 rfl rfl ?_
      exact ⟨rfl, rfl⟩
    · skip
      exfalso; exact h27 trivial
theorem nwun_d (n : Int) : Does Try.prog B w0 11 [.pointer none, .int .i64 n] F (fun r L => r = .int .i64 13 ∧ L = F) := by
  refine fn_walk Try.func11 27 rfl rfl rfl [(0, .pointer none), (1, .int .i64 n)] ⟨⟨rfl, rfl⟩, ⟨rfl, rfl⟩, trivial⟩ ?_
  refine vc_seq ?_
  refine vc_region ?_
  refine vl_det (det_assign rfl) rfl ?_
  refine vl_end [(0, _), (1, _)] ⟨rfl, rfl, trivial⟩ ?_
  refine then_next ?_
  refine vc_seq ?_
  refine vc_seq ?_
  refine vc_region ?_
  refine vl_cut 10 14 [(0, _), (1, _)] (True) ⟨rfl, rfl, trivial⟩ ?_ ?_
  · skip
    refine vl_det (det_move rfl) rfl ?_
    refine vl_det (det_ptr_nil Try.underlying55 rfl rfl) rfl ?_
    refine vl_det (det_move rfl) rfl ?_
    refine vl_guard rfl rfl rfl (fun h7 => ?_) (fun h7 => ?_)
    · skip
      refine vl_det (det_move rfl) rfl ?_
      refine vl_guard_t rfl rfl ?_
      refine vl_det (det_lss rfl rfl) rfl ?_
      refine vl_det (det_pick_f rfl rfl) rfl ?_
      refine vl_det (det_move rfl) rfl ?_
      refine vl_guardn rfl rfl rfl (fun h11 => ?_) (fun h11 => ?_)
      · skip
        refine vl_det (det_move rfl) rfl ?_
        refine vl_guard_t rfl rfl ?_
        refine vl_det (det_gtr rfl rfl) rfl ?_
        refine vl_det (det_pick_f rfl rfl) rfl ?_
        exact vl_cut_end ⟨rfl, rfl, trivial⟩ (by first | rfl | exact bool_to_t (by first | (exact trivial) | (simp at h7; done)) | exact bool_to_f (by first | (exact trivial) | (simp at h7; done)) | exact bool_to (by first | (exact trivial) | (simp at h7; done)) | exact bool_to_b (by first | (exact trivial) | (simp at h7; done)))
      · skip
        refine vl_guard_f rfl rfl rfl rfl ?_
        refine vl_det (det_pick_t rfl rfl) rfl ?_
        exact vl_cut_end ⟨rfl, rfl, trivial⟩ (by first | rfl | exact bool_to_t (by first | (exact trivial) | (simp at h7; done)) | exact bool_to_f (by first | (exact trivial) | (simp at h7; done)) | exact bool_to (by first | (exact trivial) | (simp at h7; done)) | exact bool_to_b (by first | (exact trivial) | (simp at h7; done)))
    · skip
      refine vl_guard_f rfl rfl rfl rfl ?_
      refine vl_det (det_pick_t rfl rfl) rfl ?_
      refine vl_det (det_move rfl) rfl ?_
      refine vl_guard_f rfl rfl rfl rfl ?_
      refine vl_guard_f rfl rfl rfl rfl ?_
      refine vl_det (det_pick_t rfl rfl) rfl ?_
      exact vl_cut_end ⟨rfl, rfl, trivial⟩ (by first | rfl | exact bool_to_t (by first | (exact trivial) | (simp at h7; done)) | exact bool_to_f (by first | (exact trivial) | (simp at h7; done)) | exact bool_to (by first | (exact trivial) | (simp at h7; done)) | exact bool_to_b (by first | (exact trivial) | (simp at h7; done)))
  · skip
    refine vl_end [(0, _), (1, _), (14, _)] ⟨rfl, rfl, rfl, trivial⟩ ?_
    refine then_next ?_
    refine vc_decideU rfl (fun h14 => ?_) (fun h14 => ?_)
    · skip
      refine vc_seq ?_
      refine vc_region ?_
      refine vl_det (det_assign rfl) rfl ?_
      refine vl_end [(4, _)] ⟨rfl, trivial⟩ ?_
      refine then_next ?_
      refine vc_ret ?_
      refine then_ret ?_
      refine ret1 rfl rfl ?_
      exact ⟨rfl, rfl⟩
    · skip
      exfalso; exact h14 trivial
theorem nlen_d : Does Try.prog B w0 13 [.pointer none] F (fun r L => r = .int .i64 0 ∧ L = F) := by
  refine fn_walk Try.func13 10 rfl rfl rfl [(0, .pointer none)] ⟨⟨rfl, rfl⟩, trivial⟩ ?_
  refine vc_seq ?_
  refine vc_region ?_
  refine vl_det (det_assign rfl) rfl ?_
  refine vl_end [(0, _)] ⟨rfl, trivial⟩ ?_
  refine then_next ?_
  refine vc_seq ?_
  refine vc_seq ?_
  refine vc_region ?_
  refine vl_det (det_move rfl) rfl ?_
  refine vl_det (det_ptr_nil Try.underlying55 rfl rfl) rfl ?_
  refine vl_end [(0, _), (4, _)] ⟨rfl, rfl, trivial⟩ ?_
  refine then_next ?_
  refine vc_condU rfl (fun h4 => ?_) (fun h4 => ?_)
  · skip
    refine vc_seq ?_
    refine vc_region ?_
    refine vl_det (det_assign rfl) rfl ?_
    refine vl_end [(2, _)] ⟨rfl, trivial⟩ ?_
    refine then_next ?_
    refine vc_ret ?_
    refine then_ret ?_
    refine ret1 rfl rfl ?_
    exact ⟨rfl, rfl⟩
  · skip
    exfalso; (simp at h4)
theorem nbytes_d : Does Try.prog B w0 15 [.pointer none] F (fun r L => r = .slice none 0 0 ∧ L = F) := by
  refine fn_walk Try.func15 11 rfl rfl rfl [(0, .pointer none)] ⟨⟨rfl, rfl⟩, trivial⟩ ?_
  refine vc_seq ?_
  refine vc_region ?_
  refine vl_det (det_assign rfl) rfl ?_
  refine vl_end [(0, _)] ⟨rfl, trivial⟩ ?_
  refine then_next ?_
  refine vc_seq ?_
  refine vc_seq ?_
  refine vc_region ?_
  refine vl_det (det_move rfl) rfl ?_
  refine vl_det (det_ptr_nil Try.underlying55 rfl rfl) rfl ?_
  refine vl_end [(0, _), (4, _)] ⟨rfl, rfl, trivial⟩ ?_
  refine then_next ?_
  refine vc_condU rfl (fun h4 => ?_) (fun h4 => ?_)
  · skip
    refine vc_seq ?_
    refine vc_region ?_
    refine vl_det (det_assign rfl) rfl ?_
    refine vl_end [(2, _)] ⟨rfl, trivial⟩ ?_
    refine then_next ?_
    refine vc_ret ?_
    refine then_ret ?_
    refine ret1 rfl rfl ?_
    exact ⟨rfl, rfl⟩
  · skip
    exfalso; (simp at h4)
theorem nleft_d : Does Try.prog B w0 21 [.pointer none] F (fun r L => r = .int .i64 0 ∧ L = F) := by
  refine fn_walk Try.func21 15 rfl rfl rfl [(0, .pointer none)] ⟨⟨rfl, rfl⟩, trivial⟩ ?_
  refine vc_seq ?_
  refine vc_region ?_
  refine vl_det (det_assign rfl) rfl ?_
  refine vl_end [(0, _)] ⟨rfl, trivial⟩ ?_
  refine then_next ?_
  refine vc_seq ?_
  refine vc_seq ?_
  refine vc_region ?_
  refine vl_det (det_move rfl) rfl ?_
  refine vl_det (det_ptr_nil Try.underlying42 rfl rfl) rfl ?_
  refine vl_end [(0, _), (4, _)] ⟨rfl, rfl, trivial⟩ ?_
  refine then_next ?_
  refine vc_condU rfl (fun h4 => ?_) (fun h4 => ?_)
  · skip
    refine vc_seq ?_
    refine vc_region ?_
    refine vl_det (det_assign rfl) rfl ?_
    refine vl_end [(2, _)] ⟨rfl, trivial⟩ ?_
    refine then_next ?_
    refine vc_ret ?_
    refine then_ret ?_
    refine ret1 rfl rfl ?_
    exact ⟨rfl, rfl⟩
  · skip
    exfalso; (simp at h4)
theorem nskip_d (n : Int) : Does Try.prog B w0 18 [.pointer none, .int .i64 n] F (fun r L => r = .int .i64 (if n < 0 then 13 else 1) ∧ L = F) := by
  refine fn_walk Try.func18 25 rfl rfl rfl [(0, .pointer none), (1, .int .i64 n)] ⟨⟨rfl, rfl⟩, ⟨rfl, rfl⟩, trivial⟩ ?_
  refine vc_seq ?_
  refine vc_region ?_
  refine vl_det (det_assign rfl) rfl ?_
  refine vl_end [(0, _), (1, _)] ⟨rfl, rfl, trivial⟩ ?_
  refine then_next ?_
  refine vc_seq ?_
  refine vc_block ?_
  refine vc_seq ?_
  refine vc_region ?_
  refine vl_det (det_move rfl) rfl ?_
  refine vl_det (det_lss rfl rfl) rfl ?_
  refine vl_det (det_assign rfl) rfl ?_
  refine vl_end [(0, _), (1, _), (5, _)] ⟨rfl, rfl, rfl, trivial⟩ ?_
  refine then_next ?_
  refine vc_decideU rfl (fun h5 => ?_) (fun h5 => ?_)
  · skip
    refine vc_seq ?_
    refine vc_region ?_
    refine vl_det (det_assign rfl) rfl ?_
    refine vl_end [(4, _)] ⟨rfl, trivial⟩ ?_
    refine then_next ?_
    refine vc_ret ?_
    refine in_ret ?_
    refine then_ret ?_
    refine ret1 rfl rfl ?_
    simp only [if_pos h5]; first | done | exact ⟨by first | rfl | trivial, by first | rfl | trivial⟩
  · skip
    refine vc_seq ?_
    refine vc_region ?_
    refine vl_cut 8 16 [(0, _), (1, _)] (True) ⟨rfl, rfl, trivial⟩ ?_ ?_
    · skip
      refine vl_det (det_move rfl) rfl ?_
      refine vl_det (det_ptr_nil Try.underlying42 rfl rfl) rfl ?_
      refine vl_det (det_move rfl) rfl ?_
      refine vl_guard rfl rfl rfl (fun h11 => ?_) (fun h11 => ?_)
      · skip
        refine vl_det (det_move rfl) rfl ?_
        refine vl_guard_t rfl rfl ?_
        refine vl_det (det_move rfl) rfl ?_
        refine vl_guard_t rfl rfl ?_
        refine vl_call co21 rfl (nleft_d) rfl ?_
        rintro _ _ ⟨rfl, hLL⟩
        obtain rfl := hLL.symm
        refine vl_guard_t rfl rfl ?_
        refine vl_det (det_gtr rfl rfl) rfl ?_
        refine vl_det (det_pick_f rfl rfl) rfl ?_
        exact vl_cut_end ⟨rfl, rfl, trivial⟩ (by first | rfl | exact bool_to_t (by first | (exact trivial) | (simp at h11; done)) | exact bool_to_f (by first | (exact trivial) | (simp at h11; done)) | exact bool_to (by first | (exact trivial) | (simp at h11; done)) | exact bool_to_b (by first | (exact trivial) | (simp at h11; done)))
      · skip
        refine vl_guard_f rfl rfl rfl rfl ?_
        refine vl_guard_f rfl rfl rfl rfl ?_
        refine vl_guard_f rfl rfl rfl rfl ?_
        refine vl_det (det_pick_t rfl rfl) rfl ?_
        exact vl_cut_end ⟨rfl, rfl, trivial⟩ (by first | rfl | exact bool_to_t (by first | (exact trivial) | (simp at h11; done)) | exact bool_to_f (by first | (exact trivial) | (simp at h11; done)) | exact bool_to (by first | (exact trivial) | (simp at h11; done)) | exact bool_to_b (by first | (exact trivial) | (simp at h11; done)))
    · skip
      refine vl_det (det_assign rfl) rfl ?_
      refine vl_end [(0, _), (1, _), (8, _)] ⟨rfl, rfl, rfl, trivial⟩ ?_
      refine then_next ?_
      refine vc_decideU rfl (fun h8 => ?_) (fun h8 => ?_)
      · skip
        refine vc_seq ?_
        refine vc_region ?_
        refine vl_det (det_assign rfl) rfl ?_
        refine vl_end [(4, _)] ⟨rfl, trivial⟩ ?_
        refine then_next ?_
        refine vc_ret ?_
        refine in_ret ?_
        refine then_ret ?_
        refine ret1 rfl rfl ?_
        simp only [if_neg h5]; first | done | exact ⟨by first | rfl | trivial, by first | rfl | trivial⟩
      · skip
        exfalso; exact h8 trivial
theorem nget_d (n : Int) : Does Try.prog B w0 20 [.pointer none, .int .i64 n] F (fun r L => r = .tuple #[.int .u64 0, .int .i64 (if n < 0 ∨ 64 < n then 13 else 1)] ∧ L = F) := by
  refine fn_walk Try.func20 41 rfl rfl rfl [(0, .pointer none), (1, .int .i64 n)] ⟨⟨rfl, rfl⟩, ⟨rfl, rfl⟩, trivial⟩ ?_
  refine vc_seq ?_
  refine vc_region ?_
  refine vl_det (det_assign rfl) rfl ?_
  refine vl_det (det_assign rfl) rfl ?_
  refine vl_end [(0, _), (1, _)] ⟨rfl, rfl, trivial⟩ ?_
  refine then_next ?_
  refine vc_seq ?_
  refine vc_block ?_
  refine vc_seq ?_
  refine vc_region ?_
  refine vl_cut 6 13 [(0, _), (1, _)] (n < 0 ∨ 64 < n) ⟨rfl, rfl, trivial⟩ ?_ ?_
  · skip
    refine vl_det (det_move rfl) rfl ?_
    refine vl_det (det_lss rfl rfl) rfl ?_
    refine vl_det (det_move rfl) rfl ?_
    refine vl_guardn rfl rfl rfl (fun h10 => ?_) (fun h10 => ?_)
    · skip
      refine vl_det (det_move rfl) rfl ?_
      refine vl_guard_t rfl rfl ?_
      refine vl_det (det_gtr rfl rfl) rfl ?_
      refine vl_det (det_pick_f rfl rfl) rfl ?_
      exact vl_cut_end ⟨rfl, rfl, trivial⟩ (by first | rfl | exact bool_to_t (by first | omega | (exact ⟨fun h => by omega, fun h => by omega⟩)) | exact bool_to_f (by first | omega | (exact ⟨fun h => by omega, fun h => by omega⟩)) | exact bool_to (by first | omega | (exact ⟨fun h => by omega, fun h => by omega⟩)) | exact bool_to_b (by first | omega | (exact ⟨fun h => by omega, fun h => by omega⟩)))
    · skip
      refine vl_guard_f rfl rfl rfl rfl ?_
      refine vl_det (det_pick_t rfl rfl) rfl ?_
      exact vl_cut_end ⟨rfl, rfl, trivial⟩ (by first | rfl | exact bool_to_t (by first | omega | (exact ⟨fun h => by omega, fun h => by omega⟩)) | exact bool_to_f (by first | omega | (exact ⟨fun h => by omega, fun h => by omega⟩)) | exact bool_to (by first | omega | (exact ⟨fun h => by omega, fun h => by omega⟩)) | exact bool_to_b (by first | omega | (exact ⟨fun h => by omega, fun h => by omega⟩)))
  · skip
    refine vl_det (det_assign rfl) rfl ?_
    refine vl_end [(0, _), (1, _), (7, _)] ⟨rfl, rfl, rfl, trivial⟩ ?_
    refine then_next ?_
    refine vc_decideU rfl (fun h7 => ?_) (fun h7 => ?_)
    · skip
      refine vc_seq ?_
      refine vc_region ?_
      refine vl_det (det_assign rfl) rfl ?_
      refine vl_det (det_assign rfl) rfl ?_
      refine vl_end [(4, _), (5, _)] ⟨rfl, rfl, trivial⟩ ?_
      refine then_next ?_
      refine vc_ret ?_
      refine in_ret ?_
      refine then_ret ?_
      refine ret2 rfl rfl rfl ?_
      simp only [if_pos h7]; first | done | exact ⟨by first | rfl | trivial, by first | rfl | trivial⟩
    · skip
      refine vc_seq ?_
      refine vc_region ?_
      refine vl_cut 8 22 [(0, _), (1, _)] (True) ⟨rfl, rfl, trivial⟩ ?_ ?_
      · skip
        refine vl_det (det_move rfl) rfl ?_
        refine vl_det (det_ptr_nil Try.underlying42 rfl rfl) rfl ?_
        refine vl_det (det_move rfl) rfl ?_
        refine vl_guard rfl rfl rfl (fun h17 => ?_) (fun h17 => ?_)
        · skip
          refine vl_det (det_move rfl) rfl ?_
          refine vl_guard_t rfl rfl ?_
          refine vl_det (det_move rfl) rfl ?_
          refine vl_guard_t rfl rfl ?_
          refine vl_call co21 rfl (nleft_d) rfl ?_
          rintro _ _ ⟨rfl, hLL⟩
          obtain rfl := hLL.symm
          refine vl_guard_t rfl rfl ?_
          refine vl_det (det_gtr rfl rfl) rfl ?_
          refine vl_det (det_pick_f rfl rfl) rfl ?_
          exact vl_cut_end ⟨rfl, rfl, trivial⟩ (by first | rfl | exact bool_to_t (by first | (exact trivial) | (simp at h17; done)) | exact bool_to_f (by first | (exact trivial) | (simp at h17; done)) | exact bool_to (by first | (exact trivial) | (simp at h17; done)) | exact bool_to_b (by first | (exact trivial) | (simp at h17; done)))
        · skip
          refine vl_guard_f rfl rfl rfl rfl ?_
          refine vl_guard_f rfl rfl rfl rfl ?_
          refine vl_guard_f rfl rfl rfl rfl ?_
          refine vl_det (det_pick_t rfl rfl) rfl ?_
          exact vl_cut_end ⟨rfl, rfl, trivial⟩ (by first | rfl | exact bool_to_t (by first | (exact trivial) | (simp at h17; done)) | exact bool_to_f (by first | (exact trivial) | (simp at h17; done)) | exact bool_to (by first | (exact trivial) | (simp at h17; done)) | exact bool_to_b (by first | (exact trivial) | (simp at h17; done)))
      · skip
        refine vl_det (det_assign rfl) rfl ?_
        refine vl_end [(0, _), (1, _), (14, _)] ⟨rfl, rfl, rfl, trivial⟩ ?_
        refine then_next ?_
        refine vc_decideU rfl (fun h14 => ?_) (fun h14 => ?_)
        · skip
          refine vc_seq ?_
          refine vc_region ?_
          refine vl_det (det_assign rfl) rfl ?_
          refine vl_det (det_assign rfl) rfl ?_
          refine vl_end [(4, _), (5, _)] ⟨rfl, rfl, trivial⟩ ?_
          refine then_next ?_
          refine vc_ret ?_
          refine in_ret ?_
          refine then_ret ?_
          refine ret2 rfl rfl rfl ?_
          simp only [if_neg h7]; first | done | exact ⟨by first | rfl | trivial, by first | rfl | trivial⟩
        · skip
          exfalso; exact h14 trivial
theorem npeek_d (n : Int) : Does Try.prog B w0 19 [.pointer none, .int .i64 n] F (fun r L => r = .tuple #[.int .u64 0, .int .i64 0] ∧ L = F) := by
  refine fn_walk Try.func19 29 rfl rfl rfl [(0, .pointer none), (1, .int .i64 n)] ⟨⟨rfl, rfl⟩, ⟨rfl, rfl⟩, trivial⟩ ?_
  refine vc_seq ?_
  refine vc_region ?_
  refine vl_det (det_assign rfl) rfl ?_
  refine vl_det (det_assign rfl) rfl ?_
  refine vl_end [(0, _), (1, _)] ⟨rfl, rfl, trivial⟩ ?_
  refine then_next ?_
  refine vc_seq ?_
  refine vc_seq ?_
  refine vc_region ?_
  refine vl_cut 10 15 [(0, _), (1, _)] (True) ⟨rfl, rfl, trivial⟩ ?_ ?_
  · skip
    refine vl_det (det_move rfl) rfl ?_
    refine vl_det (det_ptr_nil Try.underlying42 rfl rfl) rfl ?_
    refine vl_det (det_move rfl) rfl ?_
    refine vl_guard rfl rfl rfl (fun h8 => ?_) (fun h8 => ?_)
    · skip
      refine vl_det (det_move rfl) rfl ?_
      refine vl_guard_t rfl rfl ?_
      refine vl_det (det_lss rfl rfl) rfl ?_
      refine vl_det (det_pick_f rfl rfl) rfl ?_
      refine vl_det (det_move rfl) rfl ?_
      refine vl_guardn rfl rfl rfl (fun h12 => ?_) (fun h12 => ?_)
      · skip
        refine vl_det (det_move rfl) rfl ?_
        refine vl_guard_t rfl rfl ?_
        refine vl_det (det_gtr rfl rfl) rfl ?_
        refine vl_det (det_pick_f rfl rfl) rfl ?_
        exact vl_cut_end ⟨rfl, rfl, trivial⟩ (by first | rfl | exact bool_to_t (by first | (exact trivial) | (simp at h8; done)) | exact bool_to_f (by first | (exact trivial) | (simp at h8; done)) | exact bool_to (by first | (exact trivial) | (simp at h8; done)) | exact bool_to_b (by first | (exact trivial) | (simp at h8; done)))
      · skip
        refine vl_guard_f rfl rfl rfl rfl ?_
        refine vl_det (det_pick_t rfl rfl) rfl ?_
        exact vl_cut_end ⟨rfl, rfl, trivial⟩ (by first | rfl | exact bool_to_t (by first | (exact trivial) | (simp at h8; done)) | exact bool_to_f (by first | (exact trivial) | (simp at h8; done)) | exact bool_to (by first | (exact trivial) | (simp at h8; done)) | exact bool_to_b (by first | (exact trivial) | (simp at h8; done)))
    · skip
      refine vl_guard_f rfl rfl rfl rfl ?_
      refine vl_det (det_pick_t rfl rfl) rfl ?_
      refine vl_det (det_move rfl) rfl ?_
      refine vl_guard_f rfl rfl rfl rfl ?_
      refine vl_guard_f rfl rfl rfl rfl ?_
      refine vl_det (det_pick_t rfl rfl) rfl ?_
      exact vl_cut_end ⟨rfl, rfl, trivial⟩ (by first | rfl | exact bool_to_t (by first | (exact trivial) | (simp at h8; done)) | exact bool_to_f (by first | (exact trivial) | (simp at h8; done)) | exact bool_to (by first | (exact trivial) | (simp at h8; done)) | exact bool_to_b (by first | (exact trivial) | (simp at h8; done)))
  · skip
    refine vl_end [(0, _), (1, _), (15, _)] ⟨rfl, rfl, rfl, trivial⟩ ?_
    refine then_next ?_
    refine vc_decideU rfl (fun h15 => ?_) (fun h15 => ?_)
    · skip
      refine vc_seq ?_
      refine vc_region ?_
      refine vl_det (det_assign rfl) rfl ?_
      refine vl_det (det_assign rfl) rfl ?_
      refine vl_end [(4, _), (5, _)] ⟨rfl, rfl, trivial⟩ ?_
      refine then_next ?_
      refine vc_ret ?_
      refine then_ret ?_
      refine ret2 rfl rfl rfl ?_
      exact ⟨rfl, rfl⟩
    · skip
      exfalso; exact h15 trivial
theorem nun_d : Does Try.prog B w0 22 [.pointer none] F (fun r L => r = .tuple #[.int .i64 0, .int .i64 1] ∧ L = F) := by
  refine fn_walk Try.func22 39 rfl rfl rfl [(0, .pointer none)] ⟨⟨rfl, rfl⟩, trivial⟩ ?_
  refine vc_seq ?_
  refine vc_region ?_
  refine vl_det (det_assign rfl) rfl ?_
  refine vl_det (det_assign rfl) rfl ?_
  refine vl_end [(0, _)] ⟨rfl, trivial⟩ ?_
  refine then_next ?_
  refine vc_seq ?_
  refine vc_seq ?_
  refine vc_region ?_
  refine vl_det (det_move rfl) rfl ?_
  refine vl_det (det_ptr_nil Try.underlying42 rfl rfl) rfl ?_
  refine vl_end [(0, _), (7, _)] ⟨rfl, rfl, trivial⟩ ?_
  refine then_next ?_
  refine vc_condU rfl (fun h7 => ?_) (fun h7 => ?_)
  · skip
    refine vc_seq ?_
    refine vc_region ?_
    refine vl_det (det_assign rfl) rfl ?_
    refine vl_det (det_assign rfl) rfl ?_
    refine vl_end [(2, _), (3, _)] ⟨rfl, rfl, trivial⟩ ?_
    refine then_next ?_
    refine vc_ret ?_
    refine then_ret ?_
    refine ret2 rfl rfl rfl ?_
    exact ⟨rfl, rfl⟩
  · skip
    exfalso; (simp at h7)
theorem npad_d : Does Try.prog B w0 23 [.pointer none] F (fun r L => r = .int .i64 0 ∧ L = F) := by
  refine fn_walk Try.func23 22 rfl rfl rfl [(0, .pointer none)] ⟨⟨rfl, rfl⟩, trivial⟩ ?_
  refine vc_seq ?_
  refine vc_region ?_
  refine vl_det (det_assign rfl) rfl ?_
  refine vl_end [(0, _)] ⟨rfl, trivial⟩ ?_
  refine then_next ?_
  refine vc_seq ?_
  refine vc_seq ?_
  refine vc_region ?_
  refine vl_det (det_move rfl) rfl ?_
  refine vl_det (det_ptr_nil Try.underlying42 rfl rfl) rfl ?_
  refine vl_end [(0, _), (5, _)] ⟨rfl, rfl, trivial⟩ ?_
  refine then_next ?_
  refine vc_condU rfl (fun h5 => ?_) (fun h5 => ?_)
  · skip
    refine vc_seq ?_
    refine vc_region ?_
    refine vl_det (det_assign rfl) rfl ?_
    refine vl_end [(2, _)] ⟨rfl, trivial⟩ ?_
    refine then_next ?_
    refine vc_ret ?_
    refine then_ret ?_
    refine ret1 rfl rfl ?_
    exact ⟨rfl, rfl⟩
  · skip
    exfalso; (simp at h5)
end Go.Proofs.Ytkllhnnbokkhnaa
