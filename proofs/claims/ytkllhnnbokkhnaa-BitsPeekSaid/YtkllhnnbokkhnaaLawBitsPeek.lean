/-
  'BitsPeek': what is peeked at is what is got, if it is there. No condition.
-/
import Derived.Test.YtkllhnnbokkhnaaBitLaw
import Derived.Test.YtkllhnnbokkhnaaBitRdr
import Derived.Test.YtkllhnnbokkhnaaRows
import Derived.Test.YtkllhnnbokkhnaaOpen
namespace Go.Proofs.Ytkllhnnbokkhnaa.lawBitsPeek
open Go.ChangeShapes Go.WideShapes Go.ChangeAt Go.RowKit
open Go.ChangeMaps (open_string shut_string)
set_option linter.unusedVariables false
theorem tmodN {a b : Nat} : ((a : Int)).tmod (b : Int) = ((a % b : Nat) : Int) := by rw [Int.tmod_eq_emod_of_nonneg (by omega)]; rfl
theorem walk (w : World) (v0 : Value) (b : List UInt8) (hr0 : Rd w w.heap.size 1 v0 b.length (bv b)) (hm0 : b.length ≤ maxLen) (x : Nat) (hx : x < 65536) (y : Nat) (hy : y < 256) :
    Calls Try.prog 4 #[v0, .int .u16 x, .int .u8 y] w fun e w' => e = .returned (.bool true) ∧ Below w.heap.size w w' := by
  obtain ⟨A1, c1, rfl, _⟩ := hr0.form
  have hb0 : Bor w.heap.size w [] 1 (.slice A1 b.length c1) b.length (bv b) := Bor.in_ hr0
  simp only [maxLen] at hm0
  refine Does.law (args := [.slice A1 b.length c1, .int .u16 x, .int .u8 y]) ?_
  obtain ⟨q, hq⟩ : ∃ q, q = unp b := ⟨_, rfl⟩
  have hql : q.length = 8 * b.length := by rw [hq, unp_length]
  refine fn_walk Try.func4 95 rfl rfl rfl [(0, .slice A1 b.length c1), (1, .int .u16 x), (2, .int .u8 y)] ⟨⟨rfl, rfl⟩, ⟨rfl, rfl⟩, ⟨rfl, rfl⟩, trivial⟩ ?_
  refine vc_seq ?_
  refine vc_region ?_
  refine vl_det (det_assign rfl) rfl ?_
  refine vl_end [(0, _), (1, _), (2, _)] ⟨rfl, rfl, rfl, trivial⟩ ?_
  refine then_next ?_
  refine vc_seq ?_
  refine vc_seq ?_
  refine vc_region ?_
  refine vl_call co8 rfl (alive_d) rfl ?_
  rintro _ _ ⟨rfl, hLL⟩
  obtain rfl := hLL.symm
  refine vl_det (det_not_t rfl) rfl ?_
  refine vl_end [(0, _), (1, _), (2, _), (15, _)] ⟨rfl, rfl, rfl, rfl, trivial⟩ ?_
  refine then_next ?_
  refine vc_cond_f rfl ?_
  refine vc_skip ?_
  refine then_next ?_
  refine vc_seq ?_
  refine vc_seq ?_
  refine vc_region ?_
  refine vl_det (det_move rfl) rfl ?_
  refine vl_det (det_len_sl Try.underlying24 rfl) rfl ?_
  refine vl_det (det_gtr rfl rfl) rfl ?_
  refine vl_end [(0, _), (1, _), (2, _), (18, _)] ⟨rfl, rfl, rfl, rfl, trivial⟩ ?_
  refine then_next ?_
  refine vc_decideU rfl (fun h18 => ?_) (fun h18 => ?_)
  · skip
    refine vc_seq ?_
    refine vc_region ?_
    refine vl_det (det_assign rfl) rfl ?_
    refine vl_end [(6, _)] ⟨rfl, trivial⟩ ?_
    refine then_next ?_
    refine vc_ret ?_
    refine then_ret ?_
    refine ret1 rfl rfl ?_
    rfl
  · skip
    refine vc_skip ?_
    refine then_next ?_
    refine vc_seq ?_
    refine vc_region ?_
    refine vl_det (det_move rfl) rfl ?_
    refine vl_call co17 rfl (newr_d (by first | (exact Bor.own (by repeat (first | exact List.Mem.head _ | apply List.Mem.tail))) | (repeat (first | assumption | apply Bor.cons))) (by omega)) rfl ?_
    rintro _ _ ⟨g20, A20, c20, rfl, hLL⟩
    obtain rfl := hLL.symm
    refine vl_det (det_assign rfl) rfl ?_
    refine vl_end [(0, _), (1, _), (2, _), (7, _)] ⟨rfl, rfl, rfl, rfl, trivial⟩ ?_
    refine then_next ?_
    refine vc_seq ?_
    refine vc_region ?_
    refine vl_det (det_move rfl) rfl ?_
    refine vl_det (det_conv Try.underlying41 Try.underlying3 rfl (w_i64 (by omega) (by omega))) rfl ?_
    refine vl_det (det_move rfl) rfl ?_
    refine vl_det (det_len_sl Try.underlying24 rfl) rfl ?_
    refine vl_det (det_mul rfl rfl (w_i64 (by omega) (by omega))) rfl ?_
    refine vl_det (det_add rfl rfl (r := ((8 * b.length + 1 : Nat) : Int)) (w_i64 (by omega) (by omega))) rfl ?_
    refine vl_det (det_rem rfl rfl (by omega) tmodN) rfl ?_
    refine vl_det (det_move rfl) rfl ?_
    refine vl_det (det_conv Try.underlying5 Try.underlying3 rfl (w_i64 (by omega) (by omega))) rfl ?_
    refine vl_det (det_rem rfl rfl (by omega) (tmodN (b := 65))) rfl ?_
    refine vl_det (det_assign rfl) rfl ?_
    refine vl_det (det_assign rfl) rfl ?_
    refine vl_end [(0, _), (7, _), (8, _), (9, _)] ⟨rfl, rfl, rfl, rfl, trivial⟩ ?_
    refine then_next ?_
    refine vc_seq ?_
    refine vc_seq ?_
    have hp1 := Nat.mod_lt x (show 0 < 8 * b.length + 1 by omega)
    have hn1 := Nat.mod_lt y (show 0 < 65 by omega)
    generalize x % (8 * b.length + 1) = p at hp1 ⊢
    generalize y % 65 = n at hn1 ⊢
    subst hq
    have e1 : skE (unp b) 0 p = 0 := by unfold skE; rw [if_neg (by omega), if_neg (by omega)]
    have e2 : skP (unp b) 0 p = p := by unfold skP; rw [if_neg (by omega), if_neg (by omega)]; omega
    have e3 : pkV (unp b) p n = part (unp b) p n := if_neg (by omega)
    have e4 : pkN (unp b) p n = min (n : Int) ((unp b).length - p) := if_neg (by omega)
    have hg1 : (unp b).length < p + n → gtV (unp b) p n = 0 ∧ gtE (unp b) p n = 1 ∧ gtP (unp b) p n = p := by
      intro h
      unfold gtV gtE gtP
      rw [if_neg (by omega), if_pos (by omega), if_neg (by omega), if_pos (by omega), if_neg (by omega), if_pos (by omega)]
      exact ⟨rfl, rfl, rfl⟩
    have hg2 : ¬ (unp b).length < p + n → gtV (unp b) p n = part (unp b) p n ∧ gtE (unp b) p n = 0 ∧ gtP (unp b) p n = p + n := by
      intro h
      unfold gtV gtE gtP
      rw [if_neg (by omega), if_neg (by omega), if_neg (by omega), if_neg (by omega), if_neg (by omega), if_neg (by omega)]
      exact ⟨rfl, rfl, rfl⟩
    have hgl := gtP_le (q := unp b) (p := p) n (by omega)
    refine vc_region ?_
    refine vl_det (det_move rfl) rfl ?_
    refine vl_det (det_move rfl) rfl ?_
    refine vl_call co18 rfl (skip_d (unp b) 0 (by omega) (by omega) p (by omega) (by omega)) rfl ?_
    rintro _ _ ⟨rfl, hLL⟩
    obtain rfl := hLL.symm
    refine vl_det (det_neq rfl rfl) rfl ?_
    refine vl_end [(0, _), (7, _), (8, _), (9, _), (34, _)] ⟨rfl, rfl, rfl, rfl, rfl, trivial⟩ ?_
    refine then_next ?_
    refine vc_decideU rfl (fun h34 => ?_) (fun h34 => ?_)
    · skip
      exfalso; omega
    · skip
      refine vc_skip ?_
      refine then_next ?_
      refine vc_seq ?_
      refine vc_region ?_
      refine vl_det (det_move rfl) rfl ?_
      refine vl_det (det_move rfl) rfl ?_
      refine vl_call co19 rfl ((by rw [e2]; exact peek_d (unp b) p (by omega) (by omega) n (by omega) (by omega))) rfl ?_
      rintro _ _ ⟨rfl, hLL⟩
      obtain rfl := hLL.symm
      refine vl_det (det_move rfl) rfl ?_
      refine vl_det (det_extract rfl rfl) rfl ?_
      refine vl_det (det_extract rfl rfl) rfl ?_
      refine vl_det (det_assign rfl) rfl ?_
      refine vl_det (det_assign rfl) rfl ?_
      refine vl_end [(0, _), (7, _), (8, _), (9, _), (10, _), (11, _)] ⟨rfl, rfl, rfl, rfl, rfl, rfl, trivial⟩ ?_
      refine then_next ?_
      refine vc_seq ?_
      refine vc_region ?_
      refine vl_det (det_move rfl) rfl ?_
      refine vl_det (det_move rfl) rfl ?_
      refine vl_call co20 rfl (get_d (unp b) p (by omega) (by omega) n (by omega) (by omega)) rfl ?_
      rintro _ _ ⟨rfl, hLL⟩
      obtain rfl := hLL.symm
      refine vl_det (det_move rfl) rfl ?_
      refine vl_det (det_extract rfl rfl) rfl ?_
      refine vl_det (det_extract rfl rfl) rfl ?_
      refine vl_det (det_assign rfl) rfl ?_
      refine vl_det (det_assign rfl) rfl ?_
      refine vl_end [(0, _), (7, _), (8, _), (9, _), (10, _), (11, _), (12, _), (13, _)] ⟨rfl, rfl, rfl, rfl, rfl, rfl, rfl, rfl, trivial⟩ ?_
      refine then_next ?_
      refine vc_seq ?_
      refine vc_seq ?_
      refine vc_region ?_
      refine vl_det (det_move rfl) rfl ?_
      refine vl_det (det_move rfl) rfl ?_
      refine vl_det (det_lss rfl rfl) rfl ?_
      refine vl_end [(0, _), (7, _), (8, _), (9, _), (10, _), (11, _), (12, _), (13, _), (49, _)] ⟨rfl, rfl, rfl, rfl, rfl, rfl, rfl, rfl, rfl, trivial⟩ ?_
      refine then_next ?_
      refine vc_decideU rfl (fun h49 => ?_) (fun h49 => ?_)
      · skip
        have hg := hg1 (by omega)
        refine vc_seq ?_
        refine vc_region ?_
        refine vl_cut 21 70 [] (True) trivial ?_ ?_
        · skip
          refine vl_det (det_move rfl) rfl ?_
          refine vl_det (det_eql rfl rfl) rfl ?_
          refine vl_det (det_move rfl) rfl ?_
          refine vl_guardp rfl rfl rfl (fun h52 => ?_) (fun h52 => ?_)
          · skip
            refine vl_det (det_move rfl) rfl ?_
            refine vl_guard_t rfl rfl ?_
            refine vl_det (det_eql rfl rfl) rfl ?_
            refine vl_det (det_pick_t rfl rfl) rfl ?_
            refine vl_det (det_move rfl) rfl ?_
            refine vl_guardp rfl rfl rfl (fun h56 => ?_) (fun h56 => ?_)
            · skip
              refine vl_det (det_move rfl) rfl ?_
              refine vl_guard_t rfl rfl ?_
              refine vl_det (det_move rfl) rfl ?_
              refine vl_guard_t rfl rfl ?_
              refine vl_det (det_len_sl Try.underlying24 rfl) rfl ?_
              refine vl_guard_t rfl rfl ?_
              refine vl_det (det_mul rfl rfl (w_i64 (by omega) (by omega))) rfl ?_
              refine vl_guard_t rfl rfl ?_
              refine vl_det (det_move rfl) rfl ?_
              refine vl_guard_t rfl rfl ?_
              refine vl_det (det_sub rfl rfl (w_i64 (by omega) (by omega))) rfl ?_
              refine vl_guard_t rfl rfl ?_
              refine vl_det (det_eql rfl rfl) rfl ?_
              refine vl_det (det_pick_t rfl rfl) rfl ?_
              refine vl_det (det_move rfl) rfl ?_
              refine vl_guardp rfl rfl rfl (fun h65 => ?_) (fun h65 => ?_)
              · skip
                refine vl_det (det_move rfl) rfl ?_
                refine vl_guard_t rfl rfl ?_
                refine vl_call co21 rfl (left_d (unp b) (gtP (unp b) p n) hgl (by omega)) rfl ?_
                rintro _ _ ⟨rfl, hLL⟩
                obtain rfl := hLL.symm
                refine vl_guard_t rfl rfl ?_
                refine vl_det (det_move rfl) rfl ?_
                refine vl_guard_t rfl rfl ?_
                refine vl_det (det_eql rfl rfl) rfl ?_
                refine vl_det (det_pick_t rfl rfl) rfl ?_
                exact vl_cut_end trivial (by first | rfl | exact bool_to_t (by first | omega | (simp; omega) | (simp_all; done) | (simp_all; omega)) | exact bool_to_f (by first | omega | (simp; omega) | (simp_all; done) | (simp_all; omega)) | exact bool_to (by first | omega | (simp; omega) | (simp_all; done) | (simp_all; omega)) | exact bool_to_b (by first | omega | (simp; omega) | (simp_all; done) | (simp_all; omega)))
              · skip
                refine vl_guard_f rfl rfl rfl rfl ?_
                refine vl_guard_f rfl rfl rfl rfl ?_
                refine vl_guard_f rfl rfl rfl rfl ?_
                refine vl_det (det_pick_f rfl rfl) rfl ?_
                exact vl_cut_end trivial (by first | rfl | exact bool_to_t (by first | omega | (simp; omega) | (simp_all; done) | (simp_all; omega)) | exact bool_to_f (by first | omega | (simp; omega) | (simp_all; done) | (simp_all; omega)) | exact bool_to (by first | omega | (simp; omega) | (simp_all; done) | (simp_all; omega)) | exact bool_to_b (by first | omega | (simp; omega) | (simp_all; done) | (simp_all; omega)))
            · skip
              refine vl_guard_f rfl rfl rfl rfl ?_
              refine vl_guard_f rfl rfl rfl rfl ?_
              refine vl_guard_f rfl rfl rfl rfl ?_
              refine vl_guard_f rfl rfl rfl rfl ?_
              refine vl_guard_f rfl rfl rfl rfl ?_
              refine vl_guard_f rfl rfl rfl rfl ?_
              refine vl_det (det_pick_f rfl rfl) rfl ?_
              refine vl_det (det_move rfl) rfl ?_
              refine vl_guard_f rfl rfl rfl rfl ?_
              refine vl_guard_f rfl rfl rfl rfl ?_
              refine vl_guard_f rfl rfl rfl rfl ?_
              refine vl_guard_f rfl rfl rfl rfl ?_
              refine vl_det (det_pick_f rfl rfl) rfl ?_
              exact vl_cut_end trivial (by first | rfl | exact bool_to_t (by first | omega | (simp; omega) | (simp_all; done) | (simp_all; omega)) | exact bool_to_f (by first | omega | (simp; omega) | (simp_all; done) | (simp_all; omega)) | exact bool_to (by first | omega | (simp; omega) | (simp_all; done) | (simp_all; omega)) | exact bool_to_b (by first | omega | (simp; omega) | (simp_all; done) | (simp_all; omega)))
          · skip
            refine vl_guard_f rfl rfl rfl rfl ?_
            refine vl_det (det_pick_f rfl rfl) rfl ?_
            refine vl_det (det_move rfl) rfl ?_
            refine vl_guard_f rfl rfl rfl rfl ?_
            refine vl_guard_f rfl rfl rfl rfl ?_
            refine vl_guard_f rfl rfl rfl rfl ?_
            refine vl_guard_f rfl rfl rfl rfl ?_
            refine vl_guard_f rfl rfl rfl rfl ?_
            refine vl_guard_f rfl rfl rfl rfl ?_
            refine vl_guard_f rfl rfl rfl rfl ?_
            refine vl_det (det_pick_f rfl rfl) rfl ?_
            refine vl_det (det_move rfl) rfl ?_
            refine vl_guard_f rfl rfl rfl rfl ?_
            refine vl_guard_f rfl rfl rfl rfl ?_
            refine vl_guard_f rfl rfl rfl rfl ?_
            refine vl_guard_f rfl rfl rfl rfl ?_
            refine vl_det (det_pick_f rfl rfl) rfl ?_
            exact vl_cut_end trivial (by first | rfl | exact bool_to_t (by first | omega | (simp; omega) | (simp_all; done) | (simp_all; omega)) | exact bool_to_f (by first | omega | (simp; omega) | (simp_all; done) | (simp_all; omega)) | exact bool_to (by first | omega | (simp; omega) | (simp_all; done) | (simp_all; omega)) | exact bool_to_b (by first | omega | (simp; omega) | (simp_all; done) | (simp_all; omega)))
        · skip
          refine vl_det (det_assign rfl) rfl ?_
          refine vl_end [(6, _)] ⟨rfl, trivial⟩ ?_
          refine then_next ?_
          refine vc_ret ?_
          refine then_ret ?_
          refine ret1 rfl rfl ?_
          rw [decide_eq_true trivial]
      · skip
        have hg := hg2 (by omega)
        refine vc_skip ?_
        refine then_next ?_
        refine vc_seq ?_
        refine vc_region ?_
        refine vl_cut 24 94 [] (True) trivial ?_ ?_
        · skip
          refine vl_det (det_move rfl) rfl ?_
          refine vl_det (det_move rfl) rfl ?_
          refine vl_det (det_eql rfl rfl) rfl ?_
          refine vl_det (det_move rfl) rfl ?_
          refine vl_guardp rfl rfl rfl (fun h74 => ?_) (fun h74 => ?_)
          · skip
            refine vl_det (det_move rfl) rfl ?_
            refine vl_guard_t rfl rfl ?_
            refine vl_det (det_eql rfl rfl) rfl ?_
            refine vl_det (det_pick_t rfl rfl) rfl ?_
            refine vl_det (det_move rfl) rfl ?_
            refine vl_guardp rfl rfl rfl (fun h78 => ?_) (fun h78 => ?_)
            · skip
              refine vl_det (det_move rfl) rfl ?_
              refine vl_guard_t rfl rfl ?_
              refine vl_det (det_move rfl) rfl ?_
              refine vl_guard_t rfl rfl ?_
              refine vl_det (det_eql rfl rfl) rfl ?_
              refine vl_det (det_pick_t rfl rfl) rfl ?_
              refine vl_det (det_move rfl) rfl ?_
              refine vl_guardp rfl rfl rfl (fun h83 => ?_) (fun h83 => ?_)
              · skip
                refine vl_det (det_move rfl) rfl ?_
                refine vl_guard_t rfl rfl ?_
                refine vl_call co21 rfl (left_d (unp b) (gtP (unp b) p n) hgl (by omega)) rfl ?_
                rintro _ _ ⟨rfl, hLL⟩
                obtain rfl := hLL.symm
                refine vl_guard_t rfl rfl ?_
                refine vl_det (det_move rfl) rfl ?_
                refine vl_guard_t rfl rfl ?_
                refine vl_det (det_len_sl Try.underlying24 rfl) rfl ?_
                refine vl_guard_t rfl rfl ?_
                refine vl_det (det_mul rfl rfl (w_i64 (by omega) (by omega))) rfl ?_
                refine vl_guard_t rfl rfl ?_
                refine vl_det (det_move rfl) rfl ?_
                refine vl_guard_t rfl rfl ?_
                refine vl_det (det_sub rfl rfl (w_i64 (by omega) (by omega))) rfl ?_
                refine vl_guard_t rfl rfl ?_
                refine vl_det (det_move rfl) rfl ?_
                refine vl_guard_t rfl rfl ?_
                refine vl_det (det_sub rfl rfl (w_i64 (by omega) (by omega))) rfl ?_
                refine vl_guard_t rfl rfl ?_
                refine vl_det (det_eql rfl rfl) rfl ?_
                refine vl_det (det_pick_t rfl rfl) rfl ?_
                exact vl_cut_end trivial (by first | rfl | exact bool_to_t (by first | omega | (simp; omega) | (simp_all; done) | (simp_all; omega)) | exact bool_to_f (by first | omega | (simp; omega) | (simp_all; done) | (simp_all; omega)) | exact bool_to (by first | omega | (simp; omega) | (simp_all; done) | (simp_all; omega)) | exact bool_to_b (by first | omega | (simp; omega) | (simp_all; done) | (simp_all; omega)))
              · skip
                refine vl_guard_f rfl rfl rfl rfl ?_
                refine vl_guard_f rfl rfl rfl rfl ?_
                refine vl_guard_f rfl rfl rfl rfl ?_
                refine vl_guard_f rfl rfl rfl rfl ?_
                refine vl_guard_f rfl rfl rfl rfl ?_
                refine vl_guard_f rfl rfl rfl rfl ?_
                refine vl_guard_f rfl rfl rfl rfl ?_
                refine vl_guard_f rfl rfl rfl rfl ?_
                refine vl_guard_f rfl rfl rfl rfl ?_
                refine vl_det (det_pick_f rfl rfl) rfl ?_
                exact vl_cut_end trivial (by first | rfl | exact bool_to_t (by first | omega | (simp; omega) | (simp_all; done) | (simp_all; omega)) | exact bool_to_f (by first | omega | (simp; omega) | (simp_all; done) | (simp_all; omega)) | exact bool_to (by first | omega | (simp; omega) | (simp_all; done) | (simp_all; omega)) | exact bool_to_b (by first | omega | (simp; omega) | (simp_all; done) | (simp_all; omega)))
            · skip
              refine vl_guard_f rfl rfl rfl rfl ?_
              refine vl_guard_f rfl rfl rfl rfl ?_
              refine vl_det (det_pick_f rfl rfl) rfl ?_
              refine vl_det (det_move rfl) rfl ?_
              refine vl_guard_f rfl rfl rfl rfl ?_
              refine vl_guard_f rfl rfl rfl rfl ?_
              refine vl_guard_f rfl rfl rfl rfl ?_
              refine vl_guard_f rfl rfl rfl rfl ?_
              refine vl_guard_f rfl rfl rfl rfl ?_
              refine vl_guard_f rfl rfl rfl rfl ?_
              refine vl_guard_f rfl rfl rfl rfl ?_
              refine vl_guard_f rfl rfl rfl rfl ?_
              refine vl_guard_f rfl rfl rfl rfl ?_
              refine vl_guard_f rfl rfl rfl rfl ?_
              refine vl_det (det_pick_f rfl rfl) rfl ?_
              exact vl_cut_end trivial (by first | rfl | exact bool_to_t (by first | omega | (simp; omega) | (simp_all; done) | (simp_all; omega)) | exact bool_to_f (by first | omega | (simp; omega) | (simp_all; done) | (simp_all; omega)) | exact bool_to (by first | omega | (simp; omega) | (simp_all; done) | (simp_all; omega)) | exact bool_to_b (by first | omega | (simp; omega) | (simp_all; done) | (simp_all; omega)))
          · skip
            refine vl_guard_f rfl rfl rfl rfl ?_
            refine vl_det (det_pick_f rfl rfl) rfl ?_
            refine vl_det (det_move rfl) rfl ?_
            refine vl_guard_f rfl rfl rfl rfl ?_
            refine vl_guard_f rfl rfl rfl rfl ?_
            refine vl_guard_f rfl rfl rfl rfl ?_
            refine vl_det (det_pick_f rfl rfl) rfl ?_
            refine vl_det (det_move rfl) rfl ?_
            refine vl_guard_f rfl rfl rfl rfl ?_
            refine vl_guard_f rfl rfl rfl rfl ?_
            refine vl_guard_f rfl rfl rfl rfl ?_
            refine vl_guard_f rfl rfl rfl rfl ?_
            refine vl_guard_f rfl rfl rfl rfl ?_
            refine vl_guard_f rfl rfl rfl rfl ?_
            refine vl_guard_f rfl rfl rfl rfl ?_
            refine vl_guard_f rfl rfl rfl rfl ?_
            refine vl_guard_f rfl rfl rfl rfl ?_
            refine vl_guard_f rfl rfl rfl rfl ?_
            refine vl_det (det_pick_f rfl rfl) rfl ?_
            exact vl_cut_end trivial (by first | rfl | exact bool_to_t (by first | omega | (simp; omega) | (simp_all; done) | (simp_all; omega)) | exact bool_to_f (by first | omega | (simp; omega) | (simp_all; done) | (simp_all; omega)) | exact bool_to (by first | omega | (simp; omega) | (simp_all; done) | (simp_all; omega)) | exact bool_to_b (by first | omega | (simp; omega) | (simp_all; done) | (simp_all; omega)))
        · skip
          refine vl_det (det_assign rfl) rfl ?_
          refine vl_end [(6, _)] ⟨rfl, trivial⟩ ?_
          refine then_next ?_
          refine vc_ret ?_
          refine ret1 rfl rfl ?_
          rw [decide_eq_true trivial]
theorem own : ownKnob Try.prog.godebug = none := by kernel_rfl
theorem laidOut : laidOutB Try.prog = true := by kernel_rfl
set_option maxRecDepth 100000 in
theorem lifted (os : Os) (started : os.Started) (H : Type) (enc : TypeId × Value → H) :
    ReturnsInHanded {} Try.checked os 4 .any (Rows.bitsPeekSpec.pre6 enc Try.prog Try.f4 Rows.bitsPeekRow.domain false) (Rows.bitsPeekSpec.post enc Try.prog Try.f4 false true false false) := by
  refine returnsInHanded_of_change (C := Try.checked) own started (by kernel_rfl) Try.func4
    (ChangeSpec.witness6 (enc := enc) (C := Try.checked) false ⟨#[], #[.slice none 0 0, .int .u16 0, .int .u8 0], []⟩ 8 (by kernel_rfl) (by kernel_rfl) (by kernel_rfl) (by kernel_rfl)) ?_
  intro W base args ds gs before hval0 hW hcnd _
  have hval : ∀ (j : Nat) t v, Try.f4.params[j]? = some t → args[j]? = some v → Value.okWide Try.prog W .any base t v := hval0
  have hW' := hW
  obtain ⟨p, q, hA0, hV, rfl, hfz, hnd⟩ := hW
  have hA : DataW.TrodAll enc Try.prog W 0 (fun _ => true) true Try.f4.params.toList args.toList ds p := hA0
  rw [Try.params4] at hA hval
  obtain ⟨v0', vs0, d0, ds0, p0, q0, hargs, rfl, rfl, h0', r0⟩ := trodAll_cons hA
  obtain ⟨v1', vs1, d1, ds1, p1, q1, rfl, rfl, rfl, h1', r1⟩ := trodAll_cons r0
  obtain ⟨v2', vs2, d2, ds2, p2, q2, rfl, rfl, rfl, h2', r2⟩ := trodAll_cons r1
  obtain ⟨rfl, rfl, rfl⟩ := trodAll_nil r2
  obtain rfl : args = #[v0', v1', v2'] := by cases args; simp_all
  obtain ⟨rfl, rfl⟩ := trodVars_none hV
  have k0 := h0'
  have lt0 : ∀ x ∈ p0, x.block < W.heap.size := by obtain ⟨m, hm⟩ := k0; exact DataW.trod_lt m _ _ _ hm
  obtain ⟨A0, n0, c0, rfl⟩ := okWide_slice Try.underlying24 (hval 0 24 v0' rfl rfl)
  obtain ⟨⟨u0, L0⟩, e0, hr0, ho0, hm0⟩ := DecT.arg (dec_slice Try.underlying24 (by kernel_rfl : Try.prog.cellsOf 5 = 1) (by omega) (fun _ => rfl) (dec_u8 (w := W) Try.underlying5)) k0
  obtain rfl := cells_slice A0 n0 c0 rfl e0
  rw [flatMap_bv] at hr0
  have k1 := h1'
  have lt1 : ∀ x ∈ p1, x.block < W.heap.size := by obtain ⟨m, hm⟩ := k1; exact DataW.trod_lt m _ _ _ hm
  obtain ⟨a1, rfl, hd1, hp1, w1⟩ := open_int Try.underlying41 (hval 1 41 v1' rfl rfl) h1'
  have bd1 := bounds_u16 w1
  obtain ⟨n1, rfl⟩ := Int.eq_ofNat_of_zero_le bd1.1
  have k2 := h2'
  have lt2 : ∀ x ∈ p2, x.block < W.heap.size := by obtain ⟨m, hm⟩ := k2; exact DataW.trod_lt m _ _ _ hm
  obtain ⟨a2, rfl, hd2, hp2, w2⟩ := open_int Try.underlying5 (hval 2 5 v2' rfl rfl) h2'
  have bd2 := bounds_u8 w2
  obtain ⟨n2, rfl⟩ := Int.eq_ofNat_of_zero_le bd2.1
  clear hA0 hval0
  refine (walk W _ L0 hr0 hm0 n1 (by omega) n2 (by omega)).mono fun e W' ⟨he, bel⟩ => ?_
  subst he
  exact ⟨_, rfl, _, _, _, [], _, [], hW', trodAll_mk1 (shut_bool Try.underlying4 _), (trodAll_cons_mk (Below.trod laidOut (by kernel_rfl) (of_decide_eq_true (by kernel_rfl)) k0 bel lt0) (trodAll_cons_mk (Below.trod laidOut (by kernel_rfl) (of_decide_eq_true (by kernel_rfl)) k1 bel lt1) (trodAll_cons_mk (Below.trod laidOut (by kernel_rfl) (of_decide_eq_true (by kernel_rfl)) k2 bel lt2) trodAll_mk0))), rfl, bel.frame _, fun h => by cases h⟩

theorem over : Rows.bitsPeekRow.holds Try.pinned (OpenSpec.ofChange Rows.bitsPeekSpec) :=
  OpenClaim.holds_of_wide 4 Try.f4 rfl rfl rfl rfl rfl rfl rfl ⟨rfl, rfl, rfl, rfl, rfl⟩ rfl rfl rfl rfl rfl (by kernel_rfl) Try.func4 (by kernel_rfl)
    (of_decide_eq_true (by kernel_rfl)) (by unfold Func.isWrapper; first | (rw [if_pos (by decide +kernel)]; kernel_rfl) | (rw [if_neg (by decide +kernel)]; exact ⟨rfl, rfl⟩))
    (fun os started H enc _ => lifted os started H enc)

theorem proved : Rows.BitsPeekSaid := over
#print axioms proved
end Go.Proofs.Ytkllhnnbokkhnaa.lawBitsPeek
