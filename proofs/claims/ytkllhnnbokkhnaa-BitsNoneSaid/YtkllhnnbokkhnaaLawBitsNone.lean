/-
  'BitsNone': no writer and no reader do nothing. No condition.
-/
import Derived.Test.YtkllhnnbokkhnaaBitNone
import Derived.Test.YtkllhnnbokkhnaaRows
import Derived.Test.YtkllhnnbokkhnaaOpen
namespace Go.Proofs.Ytkllhnnbokkhnaa.lawBitsNone
open Go.ChangeShapes Go.WideShapes Go.ChangeAt Go.RowKit
open Go.ChangeMaps (open_string shut_string)
set_option linter.unusedVariables false
theorem walk (w : World) (x : Nat) (hx : x < 18446744073709551616) (n : Int) (hn : -9223372036854775808 ≤ n ∧ n ≤ 9223372036854775807) :
    Calls Try.prog 7 #[.int .u64 x, .int .i64 n] w fun e w' => e = .returned (.bool true) ∧ Below w.heap.size w w' := by
  refine Does.law (args := [.int .u64 x, .int .i64 n]) ?_
  obtain ⟨e1, he1⟩ : ∃ e1 : Int, (if n < 0 ∨ 64 < n then (13 : Int) else 1) = e1 := ⟨_, rfl⟩
  obtain ⟨e2, he2⟩ : ∃ e2 : Int, (if n < 0 then (13 : Int) else 1) = e2 := ⟨_, rfl⟩
  have hg := nget_d (B := w.heap.size) (w0 := w) (F := []) n
  have hs := nskip_d (B := w.heap.size) (w0 := w) (F := []) n
  rw [he1] at hg
  rw [he2] at hs
  have h1 : (n < 0 ∨ 64 < n) ∧ e1 = 13 ∨ ¬ (n < 0 ∨ 64 < n) ∧ e1 = 1 := by
    rw [← he1]
    split
    · exact .inl ⟨by assumption, rfl⟩
    · exact .inr ⟨by assumption, rfl⟩
  have h2 : n < 0 ∧ e2 = 13 ∨ ¬ n < 0 ∧ e2 = 1 := by
    rw [← he2]
    split
    · exact .inl ⟨by assumption, rfl⟩
    · exact .inr ⟨by assumption, rfl⟩
  clear he1 he2
  refine fn_walk Try.func7 118 rfl rfl rfl [(0, .int .u64 x), (1, .int .i64 n)] ⟨⟨rfl, rfl⟩, ⟨rfl, rfl⟩, trivial⟩ ?_
  refine vc_seq ?_
  refine vc_region ?_
  refine vl_det (det_assign rfl) rfl ?_
  refine vl_end [(0, _), (1, _)] ⟨rfl, rfl, trivial⟩ ?_
  refine then_next ?_
  refine vc_seq ?_
  refine vc_seq ?_
  refine vc_region ?_
  refine vl_call co8 rfl (alive_d) rfl ?_
  rintro _ _ ⟨rfl, hLL⟩
  obtain rfl := hLL.symm
  refine vl_det (det_not_t rfl) rfl ?_
  refine vl_end [(0, _), (1, _), (15, _)] ⟨rfl, rfl, rfl, trivial⟩ ?_
  refine then_next ?_
  refine vc_cond_f rfl ?_
  refine vc_skip ?_
  refine then_next ?_
  refine vc_seq ?_
  refine vc_region ?_
  refine vl_det (det_assign rfl) rfl ?_
  refine vl_end [(0, _), (1, _), (5, _)] ⟨rfl, rfl, rfl, trivial⟩ ?_
  refine then_next ?_
  refine vc_seq ?_
  refine vc_region ?_
  refine vl_det (det_assign rfl) rfl ?_
  refine vl_end [(0, _), (1, _), (5, _), (6, _)] ⟨rfl, rfl, rfl, rfl, trivial⟩ ?_
  refine then_next ?_
  refine vc_seq ?_
  refine vc_region ?_
  refine vl_det (det_move rfl) rfl ?_
  refine vl_det (det_move rfl) rfl ?_
  refine vl_call co20 rfl (hg) rfl ?_
  rintro _ _ ⟨rfl, hLL⟩
  obtain rfl := hLL.symm
  refine vl_det (det_move rfl) rfl ?_
  refine vl_det (det_extract rfl rfl) rfl ?_
  refine vl_det (det_extract rfl rfl) rfl ?_
  refine vl_det (det_assign rfl) rfl ?_
  refine vl_det (det_assign rfl) rfl ?_
  refine vl_end [(0, _), (1, _), (5, _), (6, _), (7, _), (8, _)] ⟨rfl, rfl, rfl, rfl, rfl, rfl, trivial⟩ ?_
  refine then_next ?_
  refine vc_seq ?_
  refine vc_region ?_
  refine vl_det (det_move rfl) rfl ?_
  refine vl_det (det_move rfl) rfl ?_
  refine vl_call co19 rfl (npeek_d n) rfl ?_
  rintro _ _ ⟨rfl, hLL⟩
  obtain rfl := hLL.symm
  refine vl_det (det_move rfl) rfl ?_
  refine vl_det (det_extract rfl rfl) rfl ?_
  refine vl_det (det_extract rfl rfl) rfl ?_
  refine vl_det (det_assign rfl) rfl ?_
  refine vl_det (det_assign rfl) rfl ?_
  refine vl_end [(0, _), (1, _), (5, _), (6, _), (7, _), (8, _), (9, _), (10, _)] ⟨rfl, rfl, rfl, rfl, rfl, rfl, rfl, rfl, trivial⟩ ?_
  refine then_next ?_
  refine vc_seq ?_
  refine vc_region ?_
  refine vl_det (det_move rfl) rfl ?_
  refine vl_call co22 rfl (nun_d) rfl ?_
  rintro _ _ ⟨rfl, hLL⟩
  obtain rfl := hLL.symm
  refine vl_det (det_move rfl) rfl ?_
  refine vl_det (det_extract rfl rfl) rfl ?_
  refine vl_det (det_extract rfl rfl) rfl ?_
  refine vl_det (det_assign rfl) rfl ?_
  refine vl_det (det_assign rfl) rfl ?_
  refine vl_end [(0, _), (1, _), (5, _), (6, _), (7, _), (8, _), (9, _), (10, _), (11, _), (12, _)] ⟨rfl, rfl, rfl, rfl, rfl, rfl, rfl, rfl, rfl, rfl, trivial⟩ ?_
  refine then_next ?_
  refine vc_seq ?_
  refine vc_region ?_
  refine vl_det (det_move rfl) rfl ?_
  refine vl_det (det_move rfl) rfl ?_
  refine vl_call co18 rfl (hs) rfl ?_
  rintro _ _ ⟨rfl, hLL⟩
  obtain rfl := hLL.symm
  refine vl_det (det_assign rfl) rfl ?_
  refine vl_end [(0, _), (1, _), (5, _), (6, _), (7, _), (8, _), (9, _), (10, _), (11, _), (12, _), (13, _)] ⟨rfl, rfl, rfl, rfl, rfl, rfl, rfl, rfl, rfl, rfl, rfl, trivial⟩ ?_
  refine then_next ?_
  refine vc_seq ?_
  refine vc_seq ?_
  refine vc_region ?_
  refine vl_cut 42 77 [(1, _), (6, _), (8, _), (13, _)] (False) ⟨rfl, rfl, rfl, rfl, trivial⟩ ?_ ?_
  · skip
    refine vl_det (det_move rfl) rfl ?_
    refine vl_det (det_move rfl) rfl ?_
    refine vl_det (det_move rfl) rfl ?_
    refine vl_call co9 rfl (nput_d _ n) rfl ?_
    rintro _ _ ⟨rfl, hLL⟩
    obtain rfl := hLL.symm
    refine vl_det (det_neq rfl rfl) rfl ?_
    refine vl_det (det_move rfl) rfl ?_
    refine vl_guardn rfl rfl rfl (fun h41 => ?_) (fun h41 => ?_)
    · skip
      refine vl_det (det_move rfl) rfl ?_
      refine vl_guard_t rfl rfl ?_
      refine vl_det (det_move rfl) rfl ?_
      refine vl_guard_t rfl rfl ?_
      refine vl_call co11 rfl (nwun_d n) rfl ?_
      rintro _ _ ⟨rfl, hLL⟩
      obtain rfl := hLL.symm
      refine vl_guard_t rfl rfl ?_
      refine vl_det (det_neq rfl rfl) rfl ?_
      refine vl_det (det_pick_f rfl rfl) rfl ?_
      refine vl_det (det_move rfl) rfl ?_
      refine vl_guardn rfl rfl rfl (fun h47 => ?_) (fun h47 => ?_)
      · skip
        refine vl_det (det_move rfl) rfl ?_
        refine vl_guard_t rfl rfl ?_
        refine vl_call co13 rfl (nlen_d) rfl ?_
        rintro _ _ ⟨rfl, hLL⟩
        obtain rfl := hLL.symm
        refine vl_guard_t rfl rfl ?_
        refine vl_det (det_neq rfl rfl) rfl ?_
        refine vl_det (det_pick_f rfl rfl) rfl ?_
        refine vl_det (det_move rfl) rfl ?_
        refine vl_guardn rfl rfl rfl (fun h52 => ?_) (fun h52 => ?_)
        · skip
          refine vl_det (det_move rfl) rfl ?_
          refine vl_guard_t rfl rfl ?_
          refine vl_call co15 rfl (nbytes_d) rfl ?_
          rintro _ _ ⟨rfl, hLL⟩
          obtain rfl := hLL.symm
          refine vl_guard_t rfl rfl ?_
          refine vl_det (det_len_sl Try.underlying24 rfl) rfl ?_
          refine vl_guard_t rfl rfl ?_
          refine vl_det (det_neq rfl rfl) rfl ?_
          refine vl_det (det_pick_f rfl rfl) rfl ?_
          refine vl_det (det_move rfl) rfl ?_
          refine vl_guardn rfl rfl rfl (fun h58 => ?_) (fun h58 => ?_)
          · skip
            refine vl_det (det_move rfl) rfl ?_
            refine vl_guard_t rfl rfl ?_
            refine vl_det (det_neq rfl rfl) rfl ?_
            refine vl_det (det_pick_f rfl rfl) rfl ?_
            refine vl_det (det_move rfl) rfl ?_
            refine vl_guardn rfl rfl rfl (fun h62 => ?_) (fun h62 => ?_)
            · skip
              refine vl_det (det_move rfl) rfl ?_
              refine vl_guard_t rfl rfl ?_
              refine vl_det (det_neq rfl rfl) rfl ?_
              refine vl_det (det_pick_f rfl rfl) rfl ?_
              refine vl_det (det_move rfl) rfl ?_
              refine vl_guardn rfl rfl rfl (fun h66 => ?_) (fun h66 => ?_)
              · skip
                refine vl_det (det_move rfl) rfl ?_
                refine vl_guard_t rfl rfl ?_
                refine vl_det (det_neq rfl rfl) rfl ?_
                refine vl_det (det_pick_f rfl rfl) rfl ?_
                refine vl_det (det_move rfl) rfl ?_
                refine vl_guardn rfl rfl rfl (fun h70 => ?_) (fun h70 => ?_)
                · skip
                  refine vl_det (det_move rfl) rfl ?_
                  refine vl_guard_t rfl rfl ?_
                  refine vl_det (det_neq rfl rfl) rfl ?_
                  refine vl_det (det_pick_f rfl rfl) rfl ?_
                  refine vl_det (det_move rfl) rfl ?_
                  refine vl_guardn rfl rfl rfl (fun h74 => ?_) (fun h74 => ?_)
                  · skip
                    refine vl_det (det_move rfl) rfl ?_
                    refine vl_guard_t rfl rfl ?_
                    refine vl_det (det_neq rfl rfl) rfl ?_
                    refine vl_det (det_pick_f rfl rfl) rfl ?_
                    exact vl_cut_end ⟨rfl, rfl, rfl, rfl, trivial⟩ (by first | rfl | exact bool_to_t (by first | omega | (simp; done) | simp_all) | exact bool_to_f (by first | omega | (simp; done) | simp_all) | exact bool_to (by first | omega | (simp; done) | simp_all) | exact bool_to_b (by first | omega | (simp; done) | simp_all))
                  · skip
                    refine vl_guard_f rfl rfl rfl rfl ?_
                    refine vl_det (det_pick_t rfl rfl) rfl ?_
                    exact vl_cut_end ⟨rfl, rfl, rfl, rfl, trivial⟩ (by first | rfl | exact bool_to_t (by first | omega | (simp; done) | simp_all) | exact bool_to_f (by first | omega | (simp; done) | simp_all) | exact bool_to (by first | omega | (simp; done) | simp_all) | exact bool_to_b (by first | omega | (simp; done) | simp_all))
                · skip
                  refine vl_guard_f rfl rfl rfl rfl ?_
                  refine vl_det (det_pick_t rfl rfl) rfl ?_
                  refine vl_det (det_move rfl) rfl ?_
                  refine vl_guard_f rfl rfl rfl rfl ?_
                  refine vl_guard_f rfl rfl rfl rfl ?_
                  refine vl_det (det_pick_t rfl rfl) rfl ?_
                  exact vl_cut_end ⟨rfl, rfl, rfl, rfl, trivial⟩ (by first | rfl | exact bool_to_t (by first | omega | (simp; done) | simp_all) | exact bool_to_f (by first | omega | (simp; done) | simp_all) | exact bool_to (by first | omega | (simp; done) | simp_all) | exact bool_to_b (by first | omega | (simp; done) | simp_all))
              · skip
                refine vl_guard_f rfl rfl rfl rfl ?_
                refine vl_det (det_pick_t rfl rfl) rfl ?_
                refine vl_det (det_move rfl) rfl ?_
                refine vl_guard_f rfl rfl rfl rfl ?_
                refine vl_guard_f rfl rfl rfl rfl ?_
                refine vl_det (det_pick_t rfl rfl) rfl ?_
                refine vl_det (det_move rfl) rfl ?_
                refine vl_guard_f rfl rfl rfl rfl ?_
                refine vl_guard_f rfl rfl rfl rfl ?_
                refine vl_det (det_pick_t rfl rfl) rfl ?_
                exact vl_cut_end ⟨rfl, rfl, rfl, rfl, trivial⟩ (by first | rfl | exact bool_to_t (by first | omega | (simp; done) | simp_all) | exact bool_to_f (by first | omega | (simp; done) | simp_all) | exact bool_to (by first | omega | (simp; done) | simp_all) | exact bool_to_b (by first | omega | (simp; done) | simp_all))
            · skip
              refine vl_guard_f rfl rfl rfl rfl ?_
              refine vl_det (det_pick_t rfl rfl) rfl ?_
              refine vl_det (det_move rfl) rfl ?_
              refine vl_guard_f rfl rfl rfl rfl ?_
              refine vl_guard_f rfl rfl rfl rfl ?_
              refine vl_det (det_pick_t rfl rfl) rfl ?_
              refine vl_det (det_move rfl) rfl ?_
              refine vl_guard_f rfl rfl rfl rfl ?_
              refine vl_guard_f rfl rfl rfl rfl ?_
              refine vl_det (det_pick_t rfl rfl) rfl ?_
              refine vl_det (det_move rfl) rfl ?_
              refine vl_guard_f rfl rfl rfl rfl ?_
              refine vl_guard_f rfl rfl rfl rfl ?_
              refine vl_det (det_pick_t rfl rfl) rfl ?_
              exact vl_cut_end ⟨rfl, rfl, rfl, rfl, trivial⟩ (by first | rfl | exact bool_to_t (by first | omega | (simp; done) | simp_all) | exact bool_to_f (by first | omega | (simp; done) | simp_all) | exact bool_to (by first | omega | (simp; done) | simp_all) | exact bool_to_b (by first | omega | (simp; done) | simp_all))
          · skip
            refine vl_guard_f rfl rfl rfl rfl ?_
            refine vl_det (det_pick_t rfl rfl) rfl ?_
            refine vl_det (det_move rfl) rfl ?_
            refine vl_guard_f rfl rfl rfl rfl ?_
            refine vl_guard_f rfl rfl rfl rfl ?_
            refine vl_det (det_pick_t rfl rfl) rfl ?_
            refine vl_det (det_move rfl) rfl ?_
            refine vl_guard_f rfl rfl rfl rfl ?_
            refine vl_guard_f rfl rfl rfl rfl ?_
            refine vl_det (det_pick_t rfl rfl) rfl ?_
            refine vl_det (det_move rfl) rfl ?_
            refine vl_guard_f rfl rfl rfl rfl ?_
            refine vl_guard_f rfl rfl rfl rfl ?_
            refine vl_det (det_pick_t rfl rfl) rfl ?_
            refine vl_det (det_move rfl) rfl ?_
            refine vl_guard_f rfl rfl rfl rfl ?_
            refine vl_guard_f rfl rfl rfl rfl ?_
            refine vl_det (det_pick_t rfl rfl) rfl ?_
            exact vl_cut_end ⟨rfl, rfl, rfl, rfl, trivial⟩ (by first | rfl | exact bool_to_t (by first | omega | (simp; done) | simp_all) | exact bool_to_f (by first | omega | (simp; done) | simp_all) | exact bool_to (by first | omega | (simp; done) | simp_all) | exact bool_to_b (by first | omega | (simp; done) | simp_all))
        · skip
          refine vl_guard_f rfl rfl rfl rfl ?_
          refine vl_guard_f rfl rfl rfl rfl ?_
          refine vl_guard_f rfl rfl rfl rfl ?_
          refine vl_det (det_pick_t rfl rfl) rfl ?_
          refine vl_det (det_move rfl) rfl ?_
          refine vl_guard_f rfl rfl rfl rfl ?_
          refine vl_guard_f rfl rfl rfl rfl ?_
          refine vl_det (det_pick_t rfl rfl) rfl ?_
          refine vl_det (det_move rfl) rfl ?_
          refine vl_guard_f rfl rfl rfl rfl ?_
          refine vl_guard_f rfl rfl rfl rfl ?_
          refine vl_det (det_pick_t rfl rfl) rfl ?_
          refine vl_det (det_move rfl) rfl ?_
          refine vl_guard_f rfl rfl rfl rfl ?_
          refine vl_guard_f rfl rfl rfl rfl ?_
          refine vl_det (det_pick_t rfl rfl) rfl ?_
          refine vl_det (det_move rfl) rfl ?_
          refine vl_guard_f rfl rfl rfl rfl ?_
          refine vl_guard_f rfl rfl rfl rfl ?_
          refine vl_det (det_pick_t rfl rfl) rfl ?_
          refine vl_det (det_move rfl) rfl ?_
          refine vl_guard_f rfl rfl rfl rfl ?_
          refine vl_guard_f rfl rfl rfl rfl ?_
          refine vl_det (det_pick_t rfl rfl) rfl ?_
          exact vl_cut_end ⟨rfl, rfl, rfl, rfl, trivial⟩ (by first | rfl | exact bool_to_t (by first | omega | (simp; done) | simp_all) | exact bool_to_f (by first | omega | (simp; done) | simp_all) | exact bool_to (by first | omega | (simp; done) | simp_all) | exact bool_to_b (by first | omega | (simp; done) | simp_all))
      · skip
        refine vl_guard_f rfl rfl rfl rfl ?_
        refine vl_guard_f rfl rfl rfl rfl ?_
        refine vl_det (det_pick_t rfl rfl) rfl ?_
        refine vl_det (det_move rfl) rfl ?_
        refine vl_guard_f rfl rfl rfl rfl ?_
        refine vl_guard_f rfl rfl rfl rfl ?_
        refine vl_guard_f rfl rfl rfl rfl ?_
        refine vl_guard_f rfl rfl rfl rfl ?_
        refine vl_det (det_pick_t rfl rfl) rfl ?_
        refine vl_det (det_move rfl) rfl ?_
        refine vl_guard_f rfl rfl rfl rfl ?_
        refine vl_guard_f rfl rfl rfl rfl ?_
        refine vl_det (det_pick_t rfl rfl) rfl ?_
        refine vl_det (det_move rfl) rfl ?_
        refine vl_guard_f rfl rfl rfl rfl ?_
        refine vl_guard_f rfl rfl rfl rfl ?_
        refine vl_det (det_pick_t rfl rfl) rfl ?_
        refine vl_det (det_move rfl) rfl ?_
        refine vl_guard_f rfl rfl rfl rfl ?_
        refine vl_guard_f rfl rfl rfl rfl ?_
        refine vl_det (det_pick_t rfl rfl) rfl ?_
        refine vl_det (det_move rfl) rfl ?_
        refine vl_guard_f rfl rfl rfl rfl ?_
        refine vl_guard_f rfl rfl rfl rfl ?_
        refine vl_det (det_pick_t rfl rfl) rfl ?_
        refine vl_det (det_move rfl) rfl ?_
        refine vl_guard_f rfl rfl rfl rfl ?_
        refine vl_guard_f rfl rfl rfl rfl ?_
        refine vl_det (det_pick_t rfl rfl) rfl ?_
        exact vl_cut_end ⟨rfl, rfl, rfl, rfl, trivial⟩ (by first | rfl | exact bool_to_t (by first | omega | (simp; done) | simp_all) | exact bool_to_f (by first | omega | (simp; done) | simp_all) | exact bool_to (by first | omega | (simp; done) | simp_all) | exact bool_to_b (by first | omega | (simp; done) | simp_all))
    · skip
      refine vl_guard_f rfl rfl rfl rfl ?_
      refine vl_guard_f rfl rfl rfl rfl ?_
      refine vl_guard_f rfl rfl rfl rfl ?_
      refine vl_det (det_pick_t rfl rfl) rfl ?_
      refine vl_det (det_move rfl) rfl ?_
      refine vl_guard_f rfl rfl rfl rfl ?_
      refine vl_guard_f rfl rfl rfl rfl ?_
      refine vl_guard_f rfl rfl rfl rfl ?_
      refine vl_det (det_pick_t rfl rfl) rfl ?_
      refine vl_det (det_move rfl) rfl ?_
      refine vl_guard_f rfl rfl rfl rfl ?_
      refine vl_guard_f rfl rfl rfl rfl ?_
      refine vl_guard_f rfl rfl rfl rfl ?_
      refine vl_guard_f rfl rfl rfl rfl ?_
      refine vl_det (det_pick_t rfl rfl) rfl ?_
      refine vl_det (det_move rfl) rfl ?_
      refine vl_guard_f rfl rfl rfl rfl ?_
      refine vl_guard_f rfl rfl rfl rfl ?_
      refine vl_det (det_pick_t rfl rfl) rfl ?_
      refine vl_det (det_move rfl) rfl ?_
      refine vl_guard_f rfl rfl rfl rfl ?_
      refine vl_guard_f rfl rfl rfl rfl ?_
      refine vl_det (det_pick_t rfl rfl) rfl ?_
      refine vl_det (det_move rfl) rfl ?_
      refine vl_guard_f rfl rfl rfl rfl ?_
      refine vl_guard_f rfl rfl rfl rfl ?_
      refine vl_det (det_pick_t rfl rfl) rfl ?_
      refine vl_det (det_move rfl) rfl ?_
      refine vl_guard_f rfl rfl rfl rfl ?_
      refine vl_guard_f rfl rfl rfl rfl ?_
      refine vl_det (det_pick_t rfl rfl) rfl ?_
      refine vl_det (det_move rfl) rfl ?_
      refine vl_guard_f rfl rfl rfl rfl ?_
      refine vl_guard_f rfl rfl rfl rfl ?_
      refine vl_det (det_pick_t rfl rfl) rfl ?_
      exact vl_cut_end ⟨rfl, rfl, rfl, rfl, trivial⟩ (by first | rfl | exact bool_to_t (by first | omega | (simp; done) | simp_all) | exact bool_to_f (by first | omega | (simp; done) | simp_all) | exact bool_to (by first | omega | (simp; done) | simp_all) | exact bool_to_b (by first | omega | (simp; done) | simp_all))
  · skip
    refine vl_end [(1, _), (6, _), (8, _), (13, _), (77, _)] ⟨rfl, rfl, rfl, rfl, rfl, trivial⟩ ?_
    refine then_next ?_
    refine vc_decideU rfl (fun h77 => ?_) (fun h77 => ?_)
    · skip
      exfalso; omega
    · skip
      refine vc_skip ?_
      refine then_next ?_
      refine vc_seq ?_
      refine vc_seq ?_
      refine vc_region ?_
      refine vl_cut 16 93 [(6, _), (8, _), (13, _)] (False) ⟨rfl, rfl, rfl, trivial⟩ ?_ ?_
      · skip
        refine vl_det (det_move rfl) rfl ?_
        refine vl_det (det_lss rfl rfl) rfl ?_
        refine vl_det (det_move rfl) rfl ?_
        refine vl_guardn rfl rfl rfl (fun h80 => ?_) (fun h80 => ?_)
        · skip
          refine vl_det (det_move rfl) rfl ?_
          refine vl_guard_t rfl rfl ?_
          refine vl_det (det_gtr rfl rfl) rfl ?_
          refine vl_det (det_pick_f rfl rfl) rfl ?_
          refine vl_det (det_move rfl) rfl ?_
          refine vl_det (det_eql rfl rfl) rfl ?_
          refine vl_det (det_bool_neq Try.underlying4 rfl rfl) rfl ?_
          refine vl_det (det_move rfl) rfl ?_
          refine vl_guardn rfl rfl rfl (fun h87 => ?_) (fun h87 => ?_)
          · skip
            refine vl_det (det_move rfl) rfl ?_
            refine vl_guard_t rfl rfl ?_
            refine vl_det (det_lss rfl rfl) rfl ?_
            refine vl_guard_t rfl rfl ?_
            refine vl_det (det_move rfl) rfl ?_
            refine vl_guard_t rfl rfl ?_
            refine vl_det (det_eql rfl rfl) rfl ?_
            refine vl_guard_t rfl rfl ?_
            refine vl_det (det_bool_neq Try.underlying4 rfl rfl) rfl ?_
            refine vl_det (det_pick_f rfl rfl) rfl ?_
            exact vl_cut_end ⟨rfl, rfl, rfl, trivial⟩ (by first | rfl | exact bool_to_t (by first | omega | (simp; omega) | (simp_all; done) | (simp_all; omega)) | exact bool_to_f (by first | omega | (simp; omega) | (simp_all; done) | (simp_all; omega)) | exact bool_to (by first | omega | (simp; omega) | (simp_all; done) | (simp_all; omega)) | exact bool_to_b (by first | omega | (simp; omega) | (simp_all; done) | (simp_all; omega)))
          · skip
            refine vl_guard_f rfl rfl rfl rfl ?_
            refine vl_guard_f rfl rfl rfl rfl ?_
            refine vl_guard_f rfl rfl rfl rfl ?_
            refine vl_guard_f rfl rfl rfl rfl ?_
            refine vl_det (det_pick_t rfl rfl) rfl ?_
            exact vl_cut_end ⟨rfl, rfl, rfl, trivial⟩ (by first | rfl | exact bool_to_t (by first | omega | (simp; omega) | (simp_all; done) | (simp_all; omega)) | exact bool_to_f (by first | omega | (simp; omega) | (simp_all; done) | (simp_all; omega)) | exact bool_to (by first | omega | (simp; omega) | (simp_all; done) | (simp_all; omega)) | exact bool_to_b (by first | omega | (simp; omega) | (simp_all; done) | (simp_all; omega)))
        · skip
          refine vl_guard_f rfl rfl rfl rfl ?_
          refine vl_det (det_pick_t rfl rfl) rfl ?_
          refine vl_det (det_move rfl) rfl ?_
          refine vl_det (det_eql rfl rfl) rfl ?_
          refine vl_det (det_bool_neq Try.underlying4 rfl rfl) rfl ?_
          refine vl_det (det_move rfl) rfl ?_
          refine vl_guardn rfl rfl rfl (fun h87 => ?_) (fun h87 => ?_)
          · skip
            refine vl_det (det_move rfl) rfl ?_
            refine vl_guard_t rfl rfl ?_
            refine vl_det (det_lss rfl rfl) rfl ?_
            refine vl_guard_t rfl rfl ?_
            refine vl_det (det_move rfl) rfl ?_
            refine vl_guard_t rfl rfl ?_
            refine vl_det (det_eql rfl rfl) rfl ?_
            refine vl_guard_t rfl rfl ?_
            refine vl_det (det_bool_neq Try.underlying4 rfl rfl) rfl ?_
            refine vl_det (det_pick_f rfl rfl) rfl ?_
            exact vl_cut_end ⟨rfl, rfl, rfl, trivial⟩ (by first | rfl | exact bool_to_t (by first | omega | (simp; omega) | (simp_all; done) | (simp_all; omega)) | exact bool_to_f (by first | omega | (simp; omega) | (simp_all; done) | (simp_all; omega)) | exact bool_to (by first | omega | (simp; omega) | (simp_all; done) | (simp_all; omega)) | exact bool_to_b (by first | omega | (simp; omega) | (simp_all; done) | (simp_all; omega)))
          · skip
            refine vl_guard_f rfl rfl rfl rfl ?_
            refine vl_guard_f rfl rfl rfl rfl ?_
            refine vl_guard_f rfl rfl rfl rfl ?_
            refine vl_guard_f rfl rfl rfl rfl ?_
            refine vl_det (det_pick_t rfl rfl) rfl ?_
            exact vl_cut_end ⟨rfl, rfl, rfl, trivial⟩ (by first | rfl | exact bool_to_t (by first | omega | (simp; omega) | (simp_all; done) | (simp_all; omega)) | exact bool_to_f (by first | omega | (simp; omega) | (simp_all; done) | (simp_all; omega)) | exact bool_to (by first | omega | (simp; omega) | (simp_all; done) | (simp_all; omega)) | exact bool_to_b (by first | omega | (simp; omega) | (simp_all; done) | (simp_all; omega)))
      · skip
        refine vl_end [(6, _), (8, _), (13, _), (93, _)] ⟨rfl, rfl, rfl, rfl, trivial⟩ ?_
        refine then_next ?_
        refine vc_decideU rfl (fun h93 => ?_) (fun h93 => ?_)
        · skip
          exfalso; omega
        · skip
          refine vc_skip ?_
          refine then_next ?_
          refine vc_seq ?_
          refine vc_region ?_
          refine vl_cut 24 117 [] (True) trivial ?_ ?_
          · skip
            refine vl_det (det_move rfl) rfl ?_
            refine vl_det (det_eql rfl rfl) rfl ?_
            refine vl_det (det_move rfl) rfl ?_
            refine vl_guardn rfl rfl rfl (fun h96 => ?_) (fun h96 => ?_)
            · skip
              refine vl_det (det_move rfl) rfl ?_
              refine vl_guard_t rfl rfl ?_
              refine vl_det (det_eql rfl rfl) rfl ?_
              refine vl_det (det_pick_f rfl rfl) rfl ?_
              refine vl_det (det_move rfl) rfl ?_
              refine vl_guardp rfl rfl rfl (fun h100 => ?_) (fun h100 => ?_)
              · skip
                refine vl_det (det_move rfl) rfl ?_
                refine vl_guard_t rfl rfl ?_
                refine vl_det (det_eql rfl rfl) rfl ?_
                refine vl_guard_t rfl rfl ?_
                refine vl_det (det_move rfl) rfl ?_
                refine vl_guardn rfl rfl rfl (fun h103 => ?_) (fun h103 => ?_)
                · skip
                  refine vl_det (det_move rfl) rfl ?_
                  refine vl_guard_t rfl rfl ?_
                  refine vl_det (det_eql rfl rfl) rfl ?_
                  refine vl_guard_t rfl rfl ?_
                  refine vl_det (det_pick_f rfl rfl) rfl ?_
                  refine vl_det (det_pick_t rfl rfl) rfl ?_
                  refine vl_det (det_move rfl) rfl ?_
                  refine vl_guardp rfl rfl rfl (fun h108 => ?_) (fun h108 => ?_)
                  · skip
                    refine vl_det (det_move rfl) rfl ?_
                    refine vl_guard_t rfl rfl ?_
                    refine vl_call co21 rfl (nleft_d) rfl ?_
                    rintro _ _ ⟨rfl, hLL⟩
                    obtain rfl := hLL.symm
                    refine vl_guard_t rfl rfl ?_
                    refine vl_det (det_eql rfl rfl) rfl ?_
                    refine vl_det (det_pick_t rfl rfl) rfl ?_
                    refine vl_det (det_move rfl) rfl ?_
                    refine vl_guardp rfl rfl rfl (fun h113 => ?_) (fun h113 => ?_)
                    · skip
                      refine vl_det (det_move rfl) rfl ?_
                      refine vl_guard_t rfl rfl ?_
                      refine vl_call co23 rfl (npad_d) rfl ?_
                      rintro _ _ ⟨rfl, hLL⟩
                      obtain rfl := hLL.symm
                      refine vl_guard_t rfl rfl ?_
                      refine vl_det (det_eql rfl rfl) rfl ?_
                      refine vl_det (det_pick_t rfl rfl) rfl ?_
                      exact vl_cut_end trivial (by first | rfl | exact bool_to_t (by first | omega | (simp; omega) | (simp_all; done)) | exact bool_to_f (by first | omega | (simp; omega) | (simp_all; done)) | exact bool_to (by first | omega | (simp; omega) | (simp_all; done)) | exact bool_to_b (by first | omega | (simp; omega) | (simp_all; done)))
                    · skip
                      refine vl_guard_f rfl rfl rfl rfl ?_
                      refine vl_guard_f rfl rfl rfl rfl ?_
                      refine vl_det (det_pick_f rfl rfl) rfl ?_
                      exact vl_cut_end trivial (by first | rfl | exact bool_to_t (by first | omega | (simp; omega) | (simp_all; done)) | exact bool_to_f (by first | omega | (simp; omega) | (simp_all; done)) | exact bool_to (by first | omega | (simp; omega) | (simp_all; done)) | exact bool_to_b (by first | omega | (simp; omega) | (simp_all; done)))
                  · skip
                    refine vl_guard_f rfl rfl rfl rfl ?_
                    refine vl_guard_f rfl rfl rfl rfl ?_
                    refine vl_det (det_pick_f rfl rfl) rfl ?_
                    refine vl_det (det_move rfl) rfl ?_
                    refine vl_guard_f rfl rfl rfl rfl ?_
                    refine vl_guard_f rfl rfl rfl rfl ?_
                    refine vl_guard_f rfl rfl rfl rfl ?_
                    refine vl_det (det_pick_f rfl rfl) rfl ?_
                    exact vl_cut_end trivial (by first | rfl | exact bool_to_t (by first | omega | (simp; omega) | (simp_all; done)) | exact bool_to_f (by first | omega | (simp; omega) | (simp_all; done)) | exact bool_to (by first | omega | (simp; omega) | (simp_all; done)) | exact bool_to_b (by first | omega | (simp; omega) | (simp_all; done)))
                · skip
                  refine vl_guard_f rfl rfl rfl rfl ?_
                  refine vl_guard_t rfl rfl ?_
                  refine vl_det (det_pick_t rfl rfl) rfl ?_
                  refine vl_det (det_pick_t rfl rfl) rfl ?_
                  refine vl_det (det_move rfl) rfl ?_
                  refine vl_guard_t rfl rfl ?_
                  refine vl_det (det_move rfl) rfl ?_
                  refine vl_guard_t rfl rfl ?_
                  refine vl_call co21 rfl (nleft_d) rfl ?_
                  rintro _ _ ⟨rfl, hLL⟩
                  obtain rfl := hLL.symm
                  refine vl_guard_t rfl rfl ?_
                  refine vl_det (det_eql rfl rfl) rfl ?_
                  refine vl_det (det_pick_t rfl rfl) rfl ?_
                  refine vl_det (det_move rfl) rfl ?_
                  refine vl_guardp rfl rfl rfl (fun h113 => ?_) (fun h113 => ?_)
                  · skip
                    refine vl_det (det_move rfl) rfl ?_
                    refine vl_guard_t rfl rfl ?_
                    refine vl_call co23 rfl (npad_d) rfl ?_
                    rintro _ _ ⟨rfl, hLL⟩
                    obtain rfl := hLL.symm
                    refine vl_guard_t rfl rfl ?_
                    refine vl_det (det_eql rfl rfl) rfl ?_
                    refine vl_det (det_pick_t rfl rfl) rfl ?_
                    exact vl_cut_end trivial (by first | rfl | exact bool_to_t (by first | omega | (simp; omega) | (simp_all; done)) | exact bool_to_f (by first | omega | (simp; omega) | (simp_all; done)) | exact bool_to (by first | omega | (simp; omega) | (simp_all; done)) | exact bool_to_b (by first | omega | (simp; omega) | (simp_all; done)))
                  · skip
                    refine vl_guard_f rfl rfl rfl rfl ?_
                    refine vl_guard_f rfl rfl rfl rfl ?_
                    refine vl_det (det_pick_f rfl rfl) rfl ?_
                    exact vl_cut_end trivial (by first | rfl | exact bool_to_t (by first | omega | (simp; omega) | (simp_all; done)) | exact bool_to_f (by first | omega | (simp; omega) | (simp_all; done)) | exact bool_to (by first | omega | (simp; omega) | (simp_all; done)) | exact bool_to_b (by first | omega | (simp; omega) | (simp_all; done)))
              · skip
                refine vl_guard_f rfl rfl rfl rfl ?_
                refine vl_guard_f rfl rfl rfl rfl ?_
                refine vl_guard_u rfl rfl rfl ?_
                refine vl_guard_u rfl rfl rfl ?_
                refine vl_guard_f rfl rfl rfl rfl ?_
                refine vl_det (det_pick_f rfl rfl) rfl ?_
                refine vl_det (det_move rfl) rfl ?_
                refine vl_guard_f rfl rfl rfl rfl ?_
                refine vl_guard_f rfl rfl rfl rfl ?_
                refine vl_guard_f rfl rfl rfl rfl ?_
                refine vl_det (det_pick_f rfl rfl) rfl ?_
                refine vl_det (det_move rfl) rfl ?_
                refine vl_guard_f rfl rfl rfl rfl ?_
                refine vl_guard_f rfl rfl rfl rfl ?_
                refine vl_guard_f rfl rfl rfl rfl ?_
                refine vl_det (det_pick_f rfl rfl) rfl ?_
                exact vl_cut_end trivial (by first | rfl | exact bool_to_t (by first | omega | (simp; omega) | (simp_all; done)) | exact bool_to_f (by first | omega | (simp; omega) | (simp_all; done)) | exact bool_to (by first | omega | (simp; omega) | (simp_all; done)) | exact bool_to_b (by first | omega | (simp; omega) | (simp_all; done)))
            · skip
              refine vl_guard_f rfl rfl rfl rfl ?_
              refine vl_det (det_pick_t rfl rfl) rfl ?_
              refine vl_det (det_move rfl) rfl ?_
              refine vl_guard_t rfl rfl ?_
              refine vl_det (det_move rfl) rfl ?_
              refine vl_guard_t rfl rfl ?_
              refine vl_det (det_eql rfl rfl) rfl ?_
              refine vl_guard_t rfl rfl ?_
              refine vl_det (det_move rfl) rfl ?_
              refine vl_guardn rfl rfl rfl (fun h103 => ?_) (fun h103 => ?_)
              · skip
                refine vl_det (det_move rfl) rfl ?_
                refine vl_guard_t rfl rfl ?_
                refine vl_det (det_eql rfl rfl) rfl ?_
                refine vl_guard_t rfl rfl ?_
                refine vl_det (det_pick_f rfl rfl) rfl ?_
                refine vl_det (det_pick_t rfl rfl) rfl ?_
                refine vl_det (det_move rfl) rfl ?_
                refine vl_guardp rfl rfl rfl (fun h108 => ?_) (fun h108 => ?_)
                · skip
                  refine vl_det (det_move rfl) rfl ?_
                  refine vl_guard_t rfl rfl ?_
                  refine vl_call co21 rfl (nleft_d) rfl ?_
                  rintro _ _ ⟨rfl, hLL⟩
                  obtain rfl := hLL.symm
                  refine vl_guard_t rfl rfl ?_
                  refine vl_det (det_eql rfl rfl) rfl ?_
                  refine vl_det (det_pick_t rfl rfl) rfl ?_
                  refine vl_det (det_move rfl) rfl ?_
                  refine vl_guardp rfl rfl rfl (fun h113 => ?_) (fun h113 => ?_)
                  · skip
                    refine vl_det (det_move rfl) rfl ?_
                    refine vl_guard_t rfl rfl ?_
                    refine vl_call co23 rfl (npad_d) rfl ?_
                    rintro _ _ ⟨rfl, hLL⟩
                    obtain rfl := hLL.symm
                    refine vl_guard_t rfl rfl ?_
                    refine vl_det (det_eql rfl rfl) rfl ?_
                    refine vl_det (det_pick_t rfl rfl) rfl ?_
                    exact vl_cut_end trivial (by first | rfl | exact bool_to_t (by first | omega | (simp; omega) | (simp_all; done)) | exact bool_to_f (by first | omega | (simp; omega) | (simp_all; done)) | exact bool_to (by first | omega | (simp; omega) | (simp_all; done)) | exact bool_to_b (by first | omega | (simp; omega) | (simp_all; done)))
                  · skip
                    refine vl_guard_f rfl rfl rfl rfl ?_
                    refine vl_guard_f rfl rfl rfl rfl ?_
                    refine vl_det (det_pick_f rfl rfl) rfl ?_
                    exact vl_cut_end trivial (by first | rfl | exact bool_to_t (by first | omega | (simp; omega) | (simp_all; done)) | exact bool_to_f (by first | omega | (simp; omega) | (simp_all; done)) | exact bool_to (by first | omega | (simp; omega) | (simp_all; done)) | exact bool_to_b (by first | omega | (simp; omega) | (simp_all; done)))
                · skip
                  refine vl_guard_f rfl rfl rfl rfl ?_
                  refine vl_guard_f rfl rfl rfl rfl ?_
                  refine vl_det (det_pick_f rfl rfl) rfl ?_
                  refine vl_det (det_move rfl) rfl ?_
                  refine vl_guard_f rfl rfl rfl rfl ?_
                  refine vl_guard_f rfl rfl rfl rfl ?_
                  refine vl_guard_f rfl rfl rfl rfl ?_
                  refine vl_det (det_pick_f rfl rfl) rfl ?_
                  exact vl_cut_end trivial (by first | rfl | exact bool_to_t (by first | omega | (simp; omega) | (simp_all; done)) | exact bool_to_f (by first | omega | (simp; omega) | (simp_all; done)) | exact bool_to (by first | omega | (simp; omega) | (simp_all; done)) | exact bool_to_b (by first | omega | (simp; omega) | (simp_all; done)))
              · skip
                refine vl_guard_f rfl rfl rfl rfl ?_
                refine vl_guard_t rfl rfl ?_
                refine vl_det (det_pick_t rfl rfl) rfl ?_
                refine vl_det (det_pick_t rfl rfl) rfl ?_
                refine vl_det (det_move rfl) rfl ?_
                refine vl_guard_t rfl rfl ?_
                refine vl_det (det_move rfl) rfl ?_
                refine vl_guard_t rfl rfl ?_
                refine vl_call co21 rfl (nleft_d) rfl ?_
                rintro _ _ ⟨rfl, hLL⟩
                obtain rfl := hLL.symm
                refine vl_guard_t rfl rfl ?_
                refine vl_det (det_eql rfl rfl) rfl ?_
                refine vl_det (det_pick_t rfl rfl) rfl ?_
                refine vl_det (det_move rfl) rfl ?_
                refine vl_guardp rfl rfl rfl (fun h113 => ?_) (fun h113 => ?_)
                · skip
                  refine vl_det (det_move rfl) rfl ?_
                  refine vl_guard_t rfl rfl ?_
                  refine vl_call co23 rfl (npad_d) rfl ?_
                  rintro _ _ ⟨rfl, hLL⟩
                  obtain rfl := hLL.symm
                  refine vl_guard_t rfl rfl ?_
                  refine vl_det (det_eql rfl rfl) rfl ?_
                  refine vl_det (det_pick_t rfl rfl) rfl ?_
                  exact vl_cut_end trivial (by first | rfl | exact bool_to_t (by first | omega | (simp; omega) | (simp_all; done)) | exact bool_to_f (by first | omega | (simp; omega) | (simp_all; done)) | exact bool_to (by first | omega | (simp; omega) | (simp_all; done)) | exact bool_to_b (by first | omega | (simp; omega) | (simp_all; done)))
                · skip
                  refine vl_guard_f rfl rfl rfl rfl ?_
                  refine vl_guard_f rfl rfl rfl rfl ?_
                  refine vl_det (det_pick_f rfl rfl) rfl ?_
                  exact vl_cut_end trivial (by first | rfl | exact bool_to_t (by first | omega | (simp; omega) | (simp_all; done)) | exact bool_to_f (by first | omega | (simp; omega) | (simp_all; done)) | exact bool_to (by first | omega | (simp; omega) | (simp_all; done)) | exact bool_to_b (by first | omega | (simp; omega) | (simp_all; done)))
          · skip
            refine vl_det (det_assign rfl) rfl ?_
            refine vl_end [(4, _)] ⟨rfl, trivial⟩ ?_
            refine then_next ?_
            refine vc_ret ?_
            refine ret1 rfl rfl ?_
            rw [decide_eq_true trivial]
theorem own : ownKnob Try.prog.godebug = none := by kernel_rfl
theorem laidOut : laidOutB Try.prog = true := by kernel_rfl
set_option maxRecDepth 100000 in
theorem lifted (os : Os) (started : os.Started) (H : Type) (enc : TypeId × Value → H) :
    ReturnsInHanded {} Try.checked os 7 .any (Rows.bitsNoneSpec.pre6 enc Try.prog Try.f7 Rows.bitsNoneRow.domain false) (Rows.bitsNoneSpec.post enc Try.prog Try.f7 false true false false) := by
  refine returnsInHanded_of_change (C := Try.checked) own started (by kernel_rfl) Try.func7
    (ChangeSpec.witness6 (enc := enc) (C := Try.checked) false ⟨#[], #[.int .u64 0, .int .i64 0], []⟩ 8 (by kernel_rfl) (by kernel_rfl) (by kernel_rfl) (by kernel_rfl)) ?_
  intro W base args ds gs before hval0 hW hcnd _
  have hval : ∀ (j : Nat) t v, Try.f7.params[j]? = some t → args[j]? = some v → Value.okWide Try.prog W .any base t v := hval0
  have hW' := hW
  obtain ⟨p, q, hA0, hV, rfl, hfz, hnd⟩ := hW
  have hA : DataW.TrodAll enc Try.prog W 0 (fun _ => true) true Try.f7.params.toList args.toList ds p := hA0
  rw [Try.params7] at hA hval
  obtain ⟨v0', vs0, d0, ds0, p0, q0, hargs, rfl, rfl, h0', r0⟩ := trodAll_cons hA
  obtain ⟨v1', vs1, d1, ds1, p1, q1, rfl, rfl, rfl, h1', r1⟩ := trodAll_cons r0
  obtain ⟨rfl, rfl, rfl⟩ := trodAll_nil r1
  obtain rfl : args = #[v0', v1'] := by cases args; simp_all
  obtain ⟨rfl, rfl⟩ := trodVars_none hV
  have k0 := h0'
  have lt0 : ∀ x ∈ p0, x.block < W.heap.size := by obtain ⟨m, hm⟩ := k0; exact DataW.trod_lt m _ _ _ hm
  obtain ⟨a0, rfl, hd0, hp0, w0⟩ := open_int Try.underlying32 (hval 0 32 v0' rfl rfl) h0'
  have bd0 := bounds_u64 w0
  obtain ⟨n0, rfl⟩ := Int.eq_ofNat_of_zero_le bd0.1
  have k1 := h1'
  have lt1 : ∀ x ∈ p1, x.block < W.heap.size := by obtain ⟨m, hm⟩ := k1; exact DataW.trod_lt m _ _ _ hm
  obtain ⟨a1, rfl, hd1, hp1, w1⟩ := open_int Try.underlying3 (hval 1 3 v1' rfl rfl) h1'
  clear hA0 hval0
  refine (walk W n0 (by omega) a1 (bounds_i64 w1)).mono fun e W' ⟨he, bel⟩ => ?_
  subst he
  exact ⟨_, rfl, _, _, _, [], _, [], hW', trodAll_mk1 (shut_bool Try.underlying4 _), (trodAll_cons_mk (Below.trod laidOut (by kernel_rfl) (of_decide_eq_true (by kernel_rfl)) k0 bel lt0) (trodAll_cons_mk (Below.trod laidOut (by kernel_rfl) (of_decide_eq_true (by kernel_rfl)) k1 bel lt1) trodAll_mk0)), rfl, bel.frame _, fun h => by cases h⟩

theorem over : Rows.bitsNoneRow.holds Try.pinned (OpenSpec.ofChange Rows.bitsNoneSpec) :=
  OpenClaim.holds_of_wide 7 Try.f7 rfl rfl rfl rfl rfl rfl rfl ⟨rfl, rfl, rfl, rfl, rfl⟩ rfl rfl rfl rfl rfl (by kernel_rfl) Try.func7 (by kernel_rfl)
    (of_decide_eq_true (by kernel_rfl)) (by unfold Func.isWrapper; first | (rw [if_pos (by decide +kernel)]; kernel_rfl) | (rw [if_neg (by decide +kernel)]; exact ⟨rfl, rfl⟩))
    (fun os started H enc _ => lifted os started H enc)

theorem proved : Rows.BitsNoneSaid := over
#print axioms proved
end Go.Proofs.Ytkllhnnbokkhnaa.lawBitsNone
