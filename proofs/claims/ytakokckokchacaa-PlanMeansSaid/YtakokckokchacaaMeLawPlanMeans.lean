/-
  'PlanMeans': whether any query means any record, or its error, is the document's. No condition.
-/
import Derived.Test.YtakokckokchacaaMe8
import Derived.Test.YtakokckokchacaaRows
namespace Go.Proofs.Ytakokckokchacaa.lawPlanMeans
open Go.ChangeShapes Go.WideShapes Go.ChangeAt Go.RowKit
open Go.ChangeMaps (open_string shut_string)
set_option linter.unusedVariables false
set_option maxRecDepth 20000
theorem walk (w : World) (x : RecC) (hx : RecC.ok x) (v : Value) (q : List StepC) (hr : Rd w w.heap.size 5 v q.length (q.flatMap StepC.cells)) (ho : ∀ x ∈ q, StepC.ok x) (hm : q.length ≤ maxLen) :
    Calls Try.prog 6 #[.agg (RecC.cells x).toArray, v] w fun e w' => e = .returned (.bool true) ∧ Below w.heap.size w w' := by
  obtain ⟨A0, c0, rfl, _⟩ := hr.form
  have hbo : Bor w.heap.size w [] 5 (.slice A0 q.length c0) q.length (stepsV q) := Bor.in_ hr
  obtain ⟨_, _, hx3, hx4⟩ := hx
  simp only [maxLen] at hm hx3 hx4
  have hck := fun F A c hb => @rcheck_d w.heap.size w F A c q hb
  have hgr := fun F A c hb => @great29_d w.heap.size w F A c q x hb (by omega) (by omega)
  refine Does.law (args := [.agg (RecC.cells x).toArray, .slice A0 q.length c0]) ?_
  by_cases hq : checkQ q = 0
  · rw [hq] at hck
    obtain ⟨t, k1, k2, k3, k4, k5, k6, k7⟩ := check_ok hq
    by_cases hG : 300 < x.2.2.2.length ∨ 300 < x.2.2.1.length ∨ 60 < q.length
    · rw [decide_eq_true hG] at hgr
      obtain ⟨tm, lv, src, txt⟩ := x
      clear hG
      refine fn_walk Try.func6 60 rfl rfl rfl [(0, .agg #[.int .u64 (tm : Int), .int .u8 (lv.toNat : Int), .string ⟨src.toArray⟩, .string ⟨txt.toArray⟩]), (1, .slice A0 q.length c0)] ⟨⟨rfl, rfl⟩, ⟨rfl, rfl⟩, trivial⟩ ?_
      refine vc_seq ?_
      refine vc_region ?_
      refine vl_eff (eff_box rfl rfl) rfl ?_
      rintro _ _ ⟨g2, rfl, rfl⟩
      refine vl_det (det_assign rfl) rfl ?_
      refine vl_end [(1, _), (2, _)] ⟨rfl, rfl, trivial⟩ ?_
      refine then_next ?_
      refine vc_seq ?_
      refine vc_seq ?_
      refine vc_region ?_
      refine vl_call co9 rfl (alive_d) rfl ?_
      rintro _ _ ⟨rfl, hLL⟩
      obtain rfl := hLL.symm
      refine vl_det (det_not_t rfl) rfl ?_
      refine vl_end [(1, _), (2, _), (9, _)] ⟨rfl, rfl, rfl, trivial⟩ ?_
      refine then_next ?_
      refine vc_cond_f rfl ?_
      refine vc_skip ?_
      refine then_next ?_
      refine vc_seq ?_
      refine vc_region ?_
      refine vl_det (det_move rfl) rfl ?_
      refine vl_call co10 rfl (hck _ _ _ (by first | (exact Bor.own (by repeat (first | exact List.Mem.head _ | apply List.Mem.tail))) | (repeat (first | assumption | apply Bor.cons)))) rfl ?_
      rintro _ _ ⟨rfl, hLL⟩
      obtain rfl := hLL.symm
      refine vl_det (det_assign rfl) rfl ?_
      refine vl_end [(1, _), (2, _), (5, _)] ⟨rfl, rfl, rfl, trivial⟩ ?_
      refine then_next ?_
      refine vc_seq ?_
      refine vc_seq ?_
      refine vc_region ?_
      refine vl_det (det_move rfl) rfl ?_
      refine vl_det (det_eql rfl rfl) rfl ?_
      refine vl_det (det_move rfl) rfl ?_
      refine vl_guardp rfl rfl rfl (fun h14 => ?_) (fun h14 => ?_)
      · skip
        refine vl_det (det_load_whole 4 (by kernel_rfl) rfl (by repeat (first | exact .hd | apply Sel.tl)) (by first | rfl | (simp; omega) | (simp [*]; done))) rfl ?_
        refine vl_guard_t rfl rfl ?_
        refine vl_det (det_move rfl) rfl ?_
        refine vl_guard_t rfl rfl ?_
        refine vl_call co20 rfl (hgr _ _ _ (by first | (exact Bor.own (by repeat (first | exact List.Mem.head _ | apply List.Mem.tail))) | (repeat (first | assumption | apply Bor.cons)))) rfl ?_
        rintro _ _ ⟨rfl, hLL⟩
        obtain rfl := hLL.symm
        refine vl_det (det_pick_t rfl rfl) rfl ?_
        refine vl_det (det_move rfl) rfl ?_
        refine vl_guard_f rfl rfl rfl rfl ?_
        refine vl_guard_f rfl rfl rfl rfl ?_
        refine vl_guard_f rfl rfl rfl rfl ?_
        refine vl_det (det_pick_t rfl rfl) rfl ?_
        refine vl_det (det_move rfl) rfl ?_
        refine vl_guard_f rfl rfl rfl rfl ?_
        refine vl_guard_f rfl rfl rfl rfl ?_
        refine vl_guard_f rfl rfl rfl rfl ?_
        refine vl_guard_f rfl rfl rfl rfl ?_
        refine vl_det (det_pick_t rfl rfl) rfl ?_
        refine vl_det (det_move rfl) rfl ?_
        refine vl_guard_f rfl rfl rfl rfl ?_
        refine vl_guard_f rfl rfl rfl rfl ?_
        refine vl_guard_f rfl rfl rfl rfl ?_
        refine vl_guard_f rfl rfl rfl rfl ?_
        refine vl_det (det_pick_t rfl rfl) rfl ?_
        refine vl_end [(1, _), (2, _), (5, _), (35, _)] ⟨rfl, rfl, rfl, rfl, trivial⟩ ?_
        refine then_next ?_
        refine vc_cond_t rfl ?_
        refine vc_seq ?_
        refine vc_region ?_
        refine vl_det (det_assign rfl) rfl ?_
        refine vl_end [(4, _)] ⟨rfl, trivial⟩ ?_
        refine then_next ?_
        refine vc_ret ?_
        refine then_ret ?_
        refine ret1 rfl rfl ?_
        rfl
      · skip
        exfalso; exact h14 rfl
    · rw [decide_eq_false hG] at hgr
      have hpf := fun F A c hb => @pmeans_ok w.heap.size w F A c x t q hb (by omega) (by omega) hq k1 k2 k3 k4 k5 k6
      have hrf := fun F A c => @rmeans_d w.heap.size w x (by omega) (by omega) t k4 k5 (by rw [k6]; omega) F A c
      rw [k6] at hrf
      obtain ⟨b, hb⟩ : ∃ b, b = meansT x (termsL x.2.2.2 x.2.2.1) t := ⟨_, rfl⟩
      rw [← hb] at hpf hrf
      obtain ⟨tm, lv, src, txt⟩ := x
      simp only at hG
      have hG1 : txt.length ≤ 300 ∧ src.length ≤ 300 ∧ q.length ≤ 60 := by omega
      clear hb hG
      refine fn_walk Try.func6 60 rfl rfl rfl [(0, .agg #[.int .u64 (tm : Int), .int .u8 (lv.toNat : Int), .string ⟨src.toArray⟩, .string ⟨txt.toArray⟩]), (1, .slice A0 q.length c0)] ⟨⟨rfl, rfl⟩, ⟨rfl, rfl⟩, trivial⟩ ?_
      refine vc_seq ?_
      refine vc_region ?_
      refine vl_eff (eff_box rfl rfl) rfl ?_
      rintro _ _ ⟨g2, rfl, rfl⟩
      refine vl_det (det_assign rfl) rfl ?_
      refine vl_end [(1, _), (2, _)] ⟨rfl, rfl, trivial⟩ ?_
      refine then_next ?_
      refine vc_seq ?_
      refine vc_seq ?_
      refine vc_region ?_
      refine vl_call co9 rfl (alive_d) rfl ?_
      rintro _ _ ⟨rfl, hLL⟩
      obtain rfl := hLL.symm
      refine vl_det (det_not_t rfl) rfl ?_
      refine vl_end [(1, _), (2, _), (9, _)] ⟨rfl, rfl, rfl, trivial⟩ ?_
      refine then_next ?_
      refine vc_cond_f rfl ?_
      refine vc_skip ?_
      refine then_next ?_
      refine vc_seq ?_
      refine vc_region ?_
      refine vl_det (det_move rfl) rfl ?_
      refine vl_call co10 rfl (hck _ _ _ (by first | (exact Bor.own (by repeat (first | exact List.Mem.head _ | apply List.Mem.tail))) | (repeat (first | assumption | apply Bor.cons)))) rfl ?_
      rintro _ _ ⟨rfl, hLL⟩
      obtain rfl := hLL.symm
      refine vl_det (det_assign rfl) rfl ?_
      refine vl_end [(1, _), (2, _), (5, _)] ⟨rfl, rfl, rfl, trivial⟩ ?_
      refine then_next ?_
      refine vc_seq ?_
      refine vc_seq ?_
      refine vc_region ?_
      refine vl_det (det_move rfl) rfl ?_
      refine vl_det (det_eql rfl rfl) rfl ?_
      refine vl_det (det_move rfl) rfl ?_
      refine vl_guardp rfl rfl rfl (fun h14 => ?_) (fun h14 => ?_)
      · skip
        refine vl_det (det_load_whole 4 (by kernel_rfl) rfl (by repeat (first | exact .hd | apply Sel.tl)) (by first | rfl | (simp; omega) | (simp [*]; done))) rfl ?_
        refine vl_guard_t rfl rfl ?_
        refine vl_det (det_move rfl) rfl ?_
        refine vl_guard_t rfl rfl ?_
        refine vl_call co20 rfl (hgr _ _ _ (by first | (exact Bor.own (by repeat (first | exact List.Mem.head _ | apply List.Mem.tail))) | (repeat (first | assumption | apply Bor.cons)))) rfl ?_
        rintro _ _ ⟨rfl, hLL⟩
        obtain rfl := hLL.symm
        refine vl_det (det_pick_t rfl rfl) rfl ?_
        refine vl_det (det_move rfl) rfl ?_
        refine vl_guard_t rfl rfl ?_
        refine vl_det (det_move rfl) rfl ?_
        refine vl_guard_t rfl rfl ?_
        refine vl_det (det_len_sl Try.underlying22 rfl) rfl ?_
        refine vl_guard_t rfl rfl ?_
        refine vl_det (det_gtr rfl rfl) rfl ?_
        refine vl_det (det_pick_f rfl rfl) rfl ?_
        refine vl_det (det_move rfl) rfl ?_
        refine vl_guardn rfl rfl rfl (fun h24 => ?_) (fun h24 => ?_)
        · skip
          refine vl_det (det_fieldAddr_ Try.underlying45 rfl (by kernel_rfl) rfl rfl) rfl ?_
          refine vl_guard_t rfl rfl ?_
          refine vl_det (det_load_blk (by kernel_rfl) rfl (by repeat (first | exact .hd | apply Sel.tl)) rfl) rfl ?_
          refine vl_guard_t rfl rfl ?_
          refine vl_det (det_len_s Try.underlying9 rfl) rfl ?_
          refine vl_guard_t rfl rfl ?_
          refine vl_det (det_gtr rfl rfl) rfl ?_
          refine vl_det (det_pick_f rfl rfl) rfl ?_
          refine vl_det (det_move rfl) rfl ?_
          refine vl_guardn rfl rfl rfl (fun h30 => ?_) (fun h30 => ?_)
          · skip
            refine vl_det (det_fieldAddr_ Try.underlying45 rfl (by kernel_rfl) rfl rfl) rfl ?_
            refine vl_guard_t rfl rfl ?_
            refine vl_det (det_load_blk (by kernel_rfl) rfl (by repeat (first | exact .hd | apply Sel.tl)) rfl) rfl ?_
            refine vl_guard_t rfl rfl ?_
            refine vl_det (det_len_s Try.underlying9 rfl) rfl ?_
            refine vl_guard_t rfl rfl ?_
            refine vl_det (det_gtr rfl rfl) rfl ?_
            refine vl_det (det_pick_f rfl rfl) rfl ?_
            refine vl_end [(1, _), (2, _), (5, _), (35, _)] ⟨rfl, rfl, rfl, rfl, trivial⟩ ?_
            refine then_next ?_
            refine vc_decideU rfl (fun h35 => ?_) (fun h35 => ?_)
            · skip
              exfalso; omega
            · skip
              refine vc_skip ?_
              refine then_next ?_
              refine vc_seq ?_
              refine vc_region ?_
              refine vl_det (det_load_whole 4 (by kernel_rfl) rfl (by repeat (first | exact .hd | apply Sel.tl)) (by first | rfl | (simp; omega) | (simp [*]; done))) rfl ?_
              refine vl_det (det_move rfl) rfl ?_
              refine vl_call co21 rfl (hpf _ _ _ (by first | (exact Bor.own (by repeat (first | exact List.Mem.head _ | apply List.Mem.tail))) | (repeat (first | assumption | apply Bor.cons)))) rfl ?_
              rintro _ _ ⟨rfl, hLL⟩
              obtain rfl := hLL.symm
              refine vl_det (det_move rfl) rfl ?_
              refine vl_det (det_extract rfl rfl) rfl ?_
              refine vl_det (det_extract rfl rfl) rfl ?_
              refine vl_det (det_assign rfl) rfl ?_
              refine vl_det (det_assign rfl) rfl ?_
              refine vl_end [(1, _), (2, _), (5, _), (6, _), (7, _)] ⟨rfl, rfl, rfl, rfl, rfl, trivial⟩ ?_
              refine then_next ?_
              refine vc_seq ?_
              refine vc_seq ?_
              refine vc_region ?_
              refine vl_det (det_move rfl) rfl ?_
              refine vl_det (det_neq rfl rfl) rfl ?_
              refine vl_end [(1, _), (2, _), (5, _), (6, _), (7, _), (43, _)] ⟨rfl, rfl, rfl, rfl, rfl, rfl, trivial⟩ ?_
              refine then_next ?_
              refine vc_decideU rfl (fun h43 => ?_) (fun h43 => ?_)
              · skip
                exfalso; exact h43 rfl
              · skip
                refine vc_skip ?_
                refine then_next ?_
                refine vc_seq ?_
                refine vc_region ?_
                refine vl_det (det_move rfl) rfl ?_
                refine vl_det (det_eql rfl rfl) rfl ?_
                refine vl_det (det_move rfl) rfl ?_
                refine vl_guardp rfl rfl rfl (fun h53 => ?_) (fun h53 => ?_)
                · skip
                  refine vl_det (det_move rfl) rfl ?_
                  refine vl_guard_t rfl rfl ?_
                  refine vl_det (det_load_whole 4 (by kernel_rfl) rfl (by repeat (first | exact .hd | apply Sel.tl)) (by first | rfl | (simp; omega) | (simp [*]; done))) rfl ?_
                  refine vl_guard_t rfl rfl ?_
                  refine vl_det (det_move rfl) rfl ?_
                  refine vl_guard_t rfl rfl ?_
                  refine vl_call co22 rfl (hrf _ _ _ (by first | (exact Bor.own (by repeat (first | exact List.Mem.head _ | apply List.Mem.tail))) | (repeat (first | assumption | apply Bor.cons)))) rfl ?_
                  rintro _ _ ⟨rfl, hLL⟩
                  obtain rfl := hLL.symm
                  refine vl_guard_t rfl rfl ?_
                  refine vl_det (det_bool_eql Try.underlying4 rfl rfl) rfl ?_
                  refine vl_det (det_pick_t rfl rfl) rfl ?_
                  refine vl_det (det_assign rfl) rfl ?_
                  refine vl_end [(4, _)] ⟨rfl, trivial⟩ ?_
                  refine then_next ?_
                  refine vc_ret ?_
                  refine ret1 rfl rfl ?_
                  first | rfl | rw [decide_eq_true rfl]
                · skip
                  exfalso; exact h53 rfl
          · skip
            refine vl_guard_f rfl rfl rfl rfl ?_
            refine vl_guard_f rfl rfl rfl rfl ?_
            refine vl_guard_f rfl rfl rfl rfl ?_
            refine vl_det (det_pick_t rfl rfl) rfl ?_
            refine vl_end [(1, _), (2, _), (5, _), (35, _)] ⟨rfl, rfl, rfl, rfl, trivial⟩ ?_
            refine then_next ?_
            refine vc_cond_t rfl ?_
            refine vc_seq ?_
            refine vc_region ?_
            refine vl_det (det_assign rfl) rfl ?_
            refine vl_end [(4, _)] ⟨rfl, trivial⟩ ?_
            refine then_next ?_
            refine vc_ret ?_
            refine then_ret ?_
            refine ret1 rfl rfl ?_
            first | rfl | rw [decide_eq_true rfl]
        · skip
          refine vl_guard_f rfl rfl rfl rfl ?_
          refine vl_guard_f rfl rfl rfl rfl ?_
          refine vl_guard_f rfl rfl rfl rfl ?_
          refine vl_det (det_pick_t rfl rfl) rfl ?_
          refine vl_det (det_move rfl) rfl ?_
          refine vl_guard_f rfl rfl rfl rfl ?_
          refine vl_guard_f rfl rfl rfl rfl ?_
          refine vl_guard_f rfl rfl rfl rfl ?_
          refine vl_guard_f rfl rfl rfl rfl ?_
          refine vl_det (det_pick_t rfl rfl) rfl ?_
          refine vl_end [(1, _), (2, _), (5, _), (35, _)] ⟨rfl, rfl, rfl, rfl, trivial⟩ ?_
          refine then_next ?_
          refine vc_cond_t rfl ?_
          refine vc_seq ?_
          refine vc_region ?_
          refine vl_det (det_assign rfl) rfl ?_
          refine vl_end [(4, _)] ⟨rfl, trivial⟩ ?_
          refine then_next ?_
          refine vc_ret ?_
          refine then_ret ?_
          refine ret1 rfl rfl ?_
          first | rfl | rw [decide_eq_true rfl]
      · skip
        exfalso; exact h14 rfl
  · have hpf := fun F A c hb => @pmeans_bad w.heap.size w F A c x q hb hq
    obtain ⟨e, he⟩ : ∃ e, e = checkQ q := ⟨_, rfl⟩
    rw [← he] at hck hpf hq
    obtain ⟨tm, lv, src, txt⟩ := x
    simp only at hx3 hx4
    refine fn_walk Try.func6 60 rfl rfl rfl [(0, .agg #[.int .u64 (tm : Int), .int .u8 (lv.toNat : Int), .string ⟨src.toArray⟩, .string ⟨txt.toArray⟩]), (1, .slice A0 q.length c0)] ⟨⟨rfl, rfl⟩, ⟨rfl, rfl⟩, trivial⟩ ?_
    refine vc_seq ?_
    refine vc_region ?_
    refine vl_eff (eff_box rfl rfl) rfl ?_
    rintro _ _ ⟨g2, rfl, rfl⟩
    refine vl_det (det_assign rfl) rfl ?_
    refine vl_end [(1, _), (2, _)] ⟨rfl, rfl, trivial⟩ ?_
    refine then_next ?_
    refine vc_seq ?_
    refine vc_seq ?_
    refine vc_region ?_
    refine vl_call co9 rfl (alive_d) rfl ?_
    rintro _ _ ⟨rfl, hLL⟩
    obtain rfl := hLL.symm
    refine vl_det (det_not_t rfl) rfl ?_
    refine vl_end [(1, _), (2, _), (9, _)] ⟨rfl, rfl, rfl, trivial⟩ ?_
    refine then_next ?_
    refine vc_cond_f rfl ?_
    refine vc_skip ?_
    refine then_next ?_
    refine vc_seq ?_
    refine vc_region ?_
    refine vl_det (det_move rfl) rfl ?_
    refine vl_call co10 rfl (hck _ _ _ (by first | (exact Bor.own (by repeat (first | exact List.Mem.head _ | apply List.Mem.tail))) | (repeat (first | assumption | apply Bor.cons)))) rfl ?_
    rintro _ _ ⟨rfl, hLL⟩
    obtain rfl := hLL.symm
    refine vl_det (det_assign rfl) rfl ?_
    refine vl_end [(1, _), (2, _), (5, _)] ⟨rfl, rfl, rfl, trivial⟩ ?_
    refine then_next ?_
    refine vc_seq ?_
    refine vc_seq ?_
    refine vc_region ?_
    refine vl_det (det_move rfl) rfl ?_
    refine vl_det (det_eql rfl rfl) rfl ?_
    refine vl_det (det_move rfl) rfl ?_
    refine vl_guardp rfl rfl rfl (fun h14 => ?_) (fun h14 => ?_)
    · skip
      exfalso; exact hq h14
    · skip
      refine vl_guard_f rfl rfl rfl rfl ?_
      refine vl_guard_f rfl rfl rfl rfl ?_
      refine vl_det (det_pick_f rfl rfl) rfl ?_
      refine vl_det (det_move rfl) rfl ?_
      refine vl_guard_t rfl rfl ?_
      refine vl_det (det_move rfl) rfl ?_
      refine vl_guard_t rfl rfl ?_
      refine vl_det (det_len_sl Try.underlying22 rfl) rfl ?_
      refine vl_guard_t rfl rfl ?_
      refine vl_det (det_gtr rfl rfl) rfl ?_
      refine vl_det (det_pick_f rfl rfl) rfl ?_
      refine vl_det (det_move rfl) rfl ?_
      refine vl_guardn rfl rfl rfl (fun h24 => ?_) (fun h24 => ?_)
      · skip
        refine vl_det (det_fieldAddr_ Try.underlying45 rfl (by kernel_rfl) rfl rfl) rfl ?_
        refine vl_guard_t rfl rfl ?_
        refine vl_det (det_load_blk (by kernel_rfl) rfl (by repeat (first | exact .hd | apply Sel.tl)) rfl) rfl ?_
        refine vl_guard_t rfl rfl ?_
        refine vl_det (det_len_s Try.underlying9 rfl) rfl ?_
        refine vl_guard_t rfl rfl ?_
        refine vl_det (det_gtr rfl rfl) rfl ?_
        refine vl_det (det_pick_f rfl rfl) rfl ?_
        refine vl_det (det_move rfl) rfl ?_
        refine vl_guardn rfl rfl rfl (fun h30 => ?_) (fun h30 => ?_)
        · skip
          refine vl_det (det_fieldAddr_ Try.underlying45 rfl (by kernel_rfl) rfl rfl) rfl ?_
          refine vl_guard_t rfl rfl ?_
          refine vl_det (det_load_blk (by kernel_rfl) rfl (by repeat (first | exact .hd | apply Sel.tl)) rfl) rfl ?_
          refine vl_guard_t rfl rfl ?_
          refine vl_det (det_len_s Try.underlying9 rfl) rfl ?_
          refine vl_guard_t rfl rfl ?_
          refine vl_det (det_gtr rfl rfl) rfl ?_
          refine vl_det (det_pick_f rfl rfl) rfl ?_
          refine vl_end [(1, _), (2, _), (5, _), (35, _)] ⟨rfl, rfl, rfl, rfl, trivial⟩ ?_
          refine then_next ?_
          refine vc_decideU rfl (fun h35 => ?_) (fun h35 => ?_)
          · skip
            refine vc_seq ?_
            refine vc_region ?_
            refine vl_det (det_assign rfl) rfl ?_
            refine vl_end [(4, _)] ⟨rfl, trivial⟩ ?_
            refine then_next ?_
            refine vc_ret ?_
            refine then_ret ?_
            refine ret1 rfl rfl ?_
            rfl
          · skip
            refine vc_skip ?_
            refine then_next ?_
            refine vc_seq ?_
            refine vc_region ?_
            refine vl_det (det_load_whole 4 (by kernel_rfl) rfl (by repeat (first | exact .hd | apply Sel.tl)) (by first | rfl | (simp; omega) | (simp [*]; done))) rfl ?_
            refine vl_det (det_move rfl) rfl ?_
            refine vl_call co21 rfl (hpf _ _ _ (by first | (exact Bor.own (by repeat (first | exact List.Mem.head _ | apply List.Mem.tail))) | (repeat (first | assumption | apply Bor.cons)))) rfl ?_
            rintro _ _ ⟨rfl, hLL⟩
            obtain rfl := hLL.symm
            refine vl_det (det_move rfl) rfl ?_
            refine vl_det (det_extract rfl rfl) rfl ?_
            refine vl_det (det_extract rfl rfl) rfl ?_
            refine vl_det (det_assign rfl) rfl ?_
            refine vl_det (det_assign rfl) rfl ?_
            refine vl_end [(1, _), (2, _), (5, _), (6, _), (7, _)] ⟨rfl, rfl, rfl, rfl, rfl, trivial⟩ ?_
            refine then_next ?_
            refine vc_seq ?_
            refine vc_seq ?_
            refine vc_region ?_
            refine vl_det (det_move rfl) rfl ?_
            refine vl_det (det_neq rfl rfl) rfl ?_
            refine vl_end [(1, _), (2, _), (5, _), (6, _), (7, _), (43, _)] ⟨rfl, rfl, rfl, rfl, rfl, rfl, trivial⟩ ?_
            refine then_next ?_
            refine vc_decideU rfl (fun h43 => ?_) (fun h43 => ?_)
            · skip
              refine vc_seq ?_
              refine vc_region ?_
              refine vl_det (det_move rfl) rfl ?_
              refine vl_det (det_move rfl) rfl ?_
              refine vl_det (det_eql rfl rfl) rfl ?_
              refine vl_det (det_move rfl) rfl ?_
              refine vl_guardp rfl rfl rfl (fun h47 => ?_) (fun h47 => ?_)
              · skip
                refine vl_det (det_move rfl) rfl ?_
                refine vl_guard_t rfl rfl ?_
                refine vl_det (det_not rfl) rfl ?_
                refine vl_det (det_pick_t rfl rfl) rfl ?_
                refine vl_det (det_assign rfl) rfl ?_
                refine vl_end [(4, _)] ⟨rfl, trivial⟩ ?_
                refine then_next ?_
                refine vc_ret ?_
                refine then_ret ?_
                refine ret1 rfl rfl ?_
                rfl
              · skip
                exfalso; exact h47 rfl
            · skip
              exfalso; exact h43 hq
        · skip
          refine vl_guard_f rfl rfl rfl rfl ?_
          refine vl_guard_f rfl rfl rfl rfl ?_
          refine vl_guard_f rfl rfl rfl rfl ?_
          refine vl_det (det_pick_t rfl rfl) rfl ?_
          refine vl_end [(1, _), (2, _), (5, _), (35, _)] ⟨rfl, rfl, rfl, rfl, trivial⟩ ?_
          refine then_next ?_
          refine vc_cond_t rfl ?_
          refine vc_seq ?_
          refine vc_region ?_
          refine vl_det (det_assign rfl) rfl ?_
          refine vl_end [(4, _)] ⟨rfl, trivial⟩ ?_
          refine then_next ?_
          refine vc_ret ?_
          refine then_ret ?_
          refine ret1 rfl rfl ?_
          rfl
      · skip
        refine vl_guard_f rfl rfl rfl rfl ?_
        refine vl_guard_f rfl rfl rfl rfl ?_
        refine vl_guard_f rfl rfl rfl rfl ?_
        refine vl_det (det_pick_t rfl rfl) rfl ?_
        refine vl_det (det_move rfl) rfl ?_
        refine vl_guard_f rfl rfl rfl rfl ?_
        refine vl_guard_f rfl rfl rfl rfl ?_
        refine vl_guard_f rfl rfl rfl rfl ?_
        refine vl_guard_f rfl rfl rfl rfl ?_
        refine vl_det (det_pick_t rfl rfl) rfl ?_
        refine vl_end [(1, _), (2, _), (5, _), (35, _)] ⟨rfl, rfl, rfl, rfl, trivial⟩ ?_
        refine then_next ?_
        refine vc_cond_t rfl ?_
        refine vc_seq ?_
        refine vc_region ?_
        refine vl_det (det_assign rfl) rfl ?_
        refine vl_end [(4, _)] ⟨rfl, trivial⟩ ?_
        refine then_next ?_
        refine vc_ret ?_
        refine then_ret ?_
        refine ret1 rfl rfl ?_
        rfl
theorem own : ownKnob Try.prog.godebug = none := by kernel_rfl
theorem laidOut : laidOutB Try.prog = true := by kernel_rfl
set_option maxRecDepth 100000 in
theorem lifted (os : Os) (started : os.Started) (H : Type) (enc : TypeId × Value → H) :
    ReturnsInHanded {} Try.checked os 6 .any (Rows.planMeansSpec.pre6 enc Try.prog Try.f6 Rows.planMeansRow.domain false) (Rows.planMeansSpec.post enc Try.prog Try.f6 false true false false) := by
  refine returnsInHanded_of_change (C := Try.checked) own started (by kernel_rfl) Try.func6
    (ChangeSpec.witness6 (enc := enc) (C := Try.checked) false ⟨#[], #[(.agg #[.int .u64 0, .int .u8 0, .string ByteArray.empty, .string ByteArray.empty]), .slice none 0 0], []⟩ 8 (by kernel_rfl) (by kernel_rfl) (by kernel_rfl) (by kernel_rfl)) ?_
  intro W base args ds gs before hval0 hW hcnd _
  have hval : ∀ (j : Nat) t v, Try.f6.params[j]? = some t → args[j]? = some v → Value.okWide Try.prog W .any base t v := hval0
  have hW' := hW
  obtain ⟨p, q, hA0, hV, rfl, hfz, hnd⟩ := hW
  have hA : DataW.TrodAll enc Try.prog W 0 (fun _ => true) true Try.f6.params.toList args.toList ds p := hA0
  rw [Try.params6] at hA hval
  obtain ⟨v0', vs0, d0, ds0, p0, q0, hargs, rfl, rfl, h0', r0⟩ := trodAll_cons hA
  obtain ⟨v1', vs1, d1, ds1, p1, q1, rfl, rfl, rfl, h1', r1⟩ := trodAll_cons r0
  obtain ⟨rfl, rfl, rfl⟩ := trodAll_nil r1
  obtain rfl : args = #[v0', v1'] := by cases args; simp_all
  obtain ⟨rfl, rfl⟩ := trodVars_none hV
  have k0 := h0'
  have lt0 : ∀ x ∈ p0, x.block < W.heap.size := by obtain ⟨m, hm⟩ := k0; exact DataW.trod_lt m _ _ _ hm
  obtain ⟨x0, e0, w0⟩ := DecT.arg (w := W) (dec_rec W) k0
  obtain rfl := agg_of Try.underlying45 (hval 0 45 v0' rfl rfl) e0
  have k1 := h1'
  have lt1 : ∀ x ∈ p1, x.block < W.heap.size := by obtain ⟨m, hm⟩ := k1; exact DataW.trod_lt m _ _ _ hm
  obtain ⟨A1, n1, c1, rfl⟩ := okWide_slice Try.underlying22 (hval 1 22 v1' rfl rfl)
  obtain ⟨⟨u1, L1⟩, e1, hr1, ho1, hm1⟩ := DecT.arg (dec_slice Try.underlying22 (by kernel_rfl : Try.prog.cellsOf 38 = 5) (by omega) (fun _ => rfl) (dec_step W)) k1
  obtain rfl := cells_slice A1 n1 c1 rfl e1
  clear hA0 hval0
  refine (walk W x0 w0 _ L1 hr1 ho1 hm1).mono fun e W' ⟨he, bel⟩ => ?_
  subst he
  exact ⟨_, rfl, _, _, _, [], _, [], hW', trodAll_mk1 (shut_bool Try.underlying4 _), (trodAll_cons_mk (Below.trod laidOut (by kernel_rfl) (of_decide_eq_true (by kernel_rfl)) k0 bel lt0) (trodAll_cons_mk (Below.trod laidOut (by kernel_rfl) (of_decide_eq_true (by kernel_rfl)) k1 bel lt1) trodAll_mk0)), rfl, bel.frame _, fun h => by cases h⟩

theorem over : Rows.planMeansRow.holds Try.pinned (OpenSpec.ofChange Rows.planMeansSpec) :=
  OpenClaim.holds_of_wide 6 Try.f6 rfl rfl rfl rfl rfl rfl rfl ⟨rfl, rfl, rfl, rfl, rfl⟩ rfl rfl rfl rfl rfl (by kernel_rfl) Try.func6 (by kernel_rfl)
    (of_decide_eq_true (by kernel_rfl)) (by unfold Func.isWrapper; first | (rw [if_pos (by decide +kernel)]; kernel_rfl) | (rw [if_neg (by decide +kernel)]; exact ⟨rfl, rfl⟩))
    (fun os started H enc _ => lifted os started H enc)

theorem proved : Rows.PlanMeansSaid := over
#print axioms proved
end Go.Proofs.Ytakokckokchacaa.lawPlanMeans
