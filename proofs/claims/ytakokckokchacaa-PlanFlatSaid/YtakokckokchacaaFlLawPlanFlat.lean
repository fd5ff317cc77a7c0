/-
  'PlanFlat': any query made flat, or its error, is the document's. No condition.
-/
import Derived.Test.YtakokckokchacaaFl8
import Derived.Test.YtakokckokchacaaRows
namespace Go.Proofs.Ytakokckokchacaa.lawPlanFlat
open Go.ChangeShapes Go.WideShapes Go.ChangeAt Go.RowKit
open Go.ChangeMaps (open_string shut_string)
set_option linter.unusedVariables false
set_option maxRecDepth 20000
theorem walk (w : World) (v : Value) (q : List StepC) (hr : Rd w w.heap.size 5 v q.length (q.flatMap StepC.cells)) (ho : ∀ x ∈ q, StepC.ok x) (hm : q.length ≤ maxLen) :
    Calls Try.prog 3 #[v] w fun e w' => e = .returned (.bool true) ∧ Below w.heap.size w w' := by
  obtain ⟨A0, c0, rfl, _⟩ := hr.form
  have hbo : Bor w.heap.size w [] 5 (.slice A0 q.length c0) q.length (stepsV q) := Bor.in_ hr
  simp only [maxLen] at hm
  have hck := fun F A c hb => @rcheck_d w.heap.size w F A c q hb
  refine Does.law (args := [.slice A0 q.length c0]) ?_
  by_cases hq : checkQ q = 0
  · rw [hq] at hck
    obtain ⟨t, k1, k2, k3, k4, k5, k6, k7⟩ := check_ok hq
    have hpf := fun F A c hb => @pflat_ok w.heap.size w F A c q t hb hq k1 k2 k3 k4 k5 k6
    have hrf := fun F A c => @rflat_d w.heap.size w t k4 k5 (by rw [k6]; omega) F A c
    rw [k6] at hrf
    have hfl := ((flatT_ok t k5).1 k4).2.2.1
    rw [k6] at hfl
    refine fn_walk Try.func3 40 rfl rfl rfl [(0, .slice A0 q.length c0)] ⟨⟨rfl, rfl⟩, trivial⟩ ?_
    refine vc_seq ?_
    refine vc_region ?_
    refine vl_det (det_assign rfl) rfl ?_
    refine vl_end [(0, _)] ⟨rfl, trivial⟩ ?_
    refine then_next ?_
    refine vc_seq ?_
    refine vc_seq ?_
    refine vc_region ?_
    refine vl_call co9 rfl (alive_d) rfl ?_
    rintro _ _ ⟨rfl, hLL⟩
    obtain rfl := hLL.symm
    refine vl_det (det_not_t rfl) rfl ?_
    refine vl_end [(0, _), (7, _)] ⟨rfl, rfl, trivial⟩ ?_
    refine then_next ?_
    refine vc_cond_f rfl ?_
    refine vc_skip ?_
    refine then_next ?_
    refine vc_seq ?_
    refine vc_region ?_
    refine vl_det (det_move rfl) rfl ?_
    refine vl_call co10 rfl (hck _ _ _ (by first | (exact Bor.own (by repeat (first | exact List.Mem.head _ | apply List.Mem.tail))) | (repeat (first | assumption | apply Bor.cons)))) rfl ?_
    rintro _ _ ⟨rfl, hLL⟩
    obtain rfl := hLL.symm
    refine vl_det (det_assign rfl) rfl ?_
    refine vl_end [(0, _), (3, _)] ⟨rfl, rfl, trivial⟩ ?_
    refine then_next ?_
    refine vc_seq ?_
    refine vc_seq ?_
    refine vc_region ?_
    refine vl_det (det_move rfl) rfl ?_
    refine vl_det (det_eql rfl rfl) rfl ?_
    refine vl_det (det_move rfl) rfl ?_
    refine vl_guardp rfl rfl rfl (fun h12 => ?_) (fun h12 => ?_)
    · skip
      refine vl_det (det_move rfl) rfl ?_
      refine vl_guard_t rfl rfl ?_
      refine vl_det (det_len_sl Try.underlying22 rfl) rfl ?_
      refine vl_guard_t rfl rfl ?_
      refine vl_det (det_gtr rfl rfl) rfl ?_
      refine vl_det (det_pick_t rfl rfl) rfl ?_
      refine vl_end [(0, _), (3, _), (16, _)] ⟨rfl, rfl, rfl, trivial⟩ ?_
      refine then_next ?_
      refine vc_decideU rfl (fun h16 => ?_) (fun h16 => ?_)
      · skip
        refine vc_seq ?_
        refine vc_region ?_
        refine vl_det (det_assign rfl) rfl ?_
        refine vl_end [(2, _)] ⟨rfl, trivial⟩ ?_
        refine then_next ?_
        refine vc_ret ?_
        refine then_ret ?_
        refine ret1 rfl rfl ?_
        rfl
      · skip
        refine vc_skip ?_
        refine then_next ?_
        refine vc_seq ?_
        refine vc_region ?_
        refine vl_det (det_move rfl) rfl ?_
        refine vl_call co11 rfl (hpf _ _ _ (by first | (exact Bor.own (by repeat (first | exact List.Mem.head _ | apply List.Mem.tail))) | (repeat (first | assumption | apply Bor.cons)))) rfl ?_
        rintro _ _ ⟨A19, c19, rfl, hLL⟩
        obtain rfl := hLL.symm
        refine vl_det (det_move rfl) rfl ?_
        refine vl_det (det_extract rfl rfl) rfl ?_
        refine vl_det (det_extract rfl rfl) rfl ?_
        refine vl_det (det_assign rfl) rfl ?_
        refine vl_det (det_assign rfl) rfl ?_
        refine vl_end [(0, _), (3, _), (4, _), (5, _)] ⟨rfl, rfl, rfl, rfl, trivial⟩ ?_
        refine then_next ?_
        refine vc_seq ?_
        refine vc_seq ?_
        refine vc_region ?_
        refine vl_det (det_move rfl) rfl ?_
        refine vl_det (det_neq rfl rfl) rfl ?_
        refine vl_end [(0, _), (3, _), (4, _), (5, _), (23, _)] ⟨rfl, rfl, rfl, rfl, rfl, trivial⟩ ?_
        refine then_next ?_
        refine vc_decideU rfl (fun h23 => ?_) (fun h23 => ?_)
        · skip
          exfalso; exact h23 rfl
        · skip
          refine vc_skip ?_
          refine then_next ?_
          refine vc_seq ?_
          refine vc_region ?_
          refine vl_det (det_move rfl) rfl ?_
          refine vl_det (det_eql rfl rfl) rfl ?_
          refine vl_det (det_move rfl) rfl ?_
          refine vl_guardp rfl rfl rfl (fun h34 => ?_) (fun h34 => ?_)
          · skip
            refine vl_det (det_move rfl) rfl ?_
            refine vl_guard_t rfl rfl ?_
            refine vl_det (det_move rfl) rfl ?_
            refine vl_guard_t rfl rfl ?_
            refine vl_call co13 rfl (hrf _ _ _ (by first | (exact Bor.own (by repeat (first | exact List.Mem.head _ | apply List.Mem.tail))) | (repeat (first | assumption | apply Bor.cons)))) rfl ?_
            rintro _ _ ⟨A37, c37, rfl, hLL⟩
            obtain rfl := hLL.symm
            refine vl_guard_t rfl rfl ?_
            refine vl_call co12 rfl (qsame_d (by first | (exact Bor.own (by repeat (first | exact List.Mem.head _ | apply List.Mem.tail))) | (repeat (first | assumption | apply Bor.cons))) (by first | (exact Bor.own (by repeat (first | exact List.Mem.head _ | apply List.Mem.tail))) | (repeat (first | assumption | apply Bor.cons))) (by omega)) rfl ?_
            rintro _ _ ⟨rfl, hLL⟩
            obtain rfl := hLL.symm
            refine vl_det (det_pick_t rfl rfl) rfl ?_
            refine vl_det (det_assign rfl) rfl ?_
            refine vl_end [(2, _)] ⟨rfl, trivial⟩ ?_
            refine then_next ?_
            refine vc_ret ?_
            refine ret1 rfl rfl ?_
            rw [decide_eq_true rfl]
          · skip
            exfalso; exact h34 rfl
    · skip
      exfalso; exact h12 rfl
  · have hpf := fun F A c hb => @pflat_bad w.heap.size w F A c q hb hq
    obtain ⟨e, he⟩ : ∃ e, e = checkQ q := ⟨_, rfl⟩
    rw [← he] at hck hpf hq
    refine fn_walk Try.func3 40 rfl rfl rfl [(0, .slice A0 q.length c0)] ⟨⟨rfl, rfl⟩, trivial⟩ ?_
    refine vc_seq ?_
    refine vc_region ?_
    refine vl_det (det_assign rfl) rfl ?_
    refine vl_end [(0, _)] ⟨rfl, trivial⟩ ?_
    refine then_next ?_
    refine vc_seq ?_
    refine vc_seq ?_
    refine vc_region ?_
    refine vl_call co9 rfl (alive_d) rfl ?_
    rintro _ _ ⟨rfl, hLL⟩
    obtain rfl := hLL.symm
    refine vl_det (det_not_t rfl) rfl ?_
    refine vl_end [(0, _), (7, _)] ⟨rfl, rfl, trivial⟩ ?_
    refine then_next ?_
    refine vc_cond_f rfl ?_
    refine vc_skip ?_
    refine then_next ?_
    refine vc_seq ?_
    refine vc_region ?_
    refine vl_det (det_move rfl) rfl ?_
    refine vl_call co10 rfl (hck _ _ _ (by first | (exact Bor.own (by repeat (first | exact List.Mem.head _ | apply List.Mem.tail))) | (repeat (first | assumption | apply Bor.cons)))) rfl ?_
    rintro _ _ ⟨rfl, hLL⟩
    obtain rfl := hLL.symm
    refine vl_det (det_assign rfl) rfl ?_
    refine vl_end [(0, _), (3, _)] ⟨rfl, rfl, trivial⟩ ?_
    refine then_next ?_
    refine vc_seq ?_
    refine vc_seq ?_
    refine vc_region ?_
    refine vl_det (det_move rfl) rfl ?_
    refine vl_det (det_eql rfl rfl) rfl ?_
    refine vl_det (det_move rfl) rfl ?_
    refine vl_guardp rfl rfl rfl (fun h12 => ?_) (fun h12 => ?_)
    · skip
      exfalso; exact hq h12
    · skip
      refine vl_guard_f rfl rfl rfl rfl ?_
      refine vl_guard_f rfl rfl rfl rfl ?_
      refine vl_det (det_pick_f rfl rfl) rfl ?_
      refine vl_end [(0, _), (3, _), (16, _)] ⟨rfl, rfl, rfl, trivial⟩ ?_
      refine then_next ?_
      refine vc_cond_f rfl ?_
      refine vc_skip ?_
      refine then_next ?_
      refine vc_seq ?_
      refine vc_region ?_
      refine vl_det (det_move rfl) rfl ?_
      refine vl_call co11 rfl (hpf _ _ _ (by first | (exact Bor.own (by repeat (first | exact List.Mem.head _ | apply List.Mem.tail))) | (repeat (first | assumption | apply Bor.cons)))) rfl ?_
      rintro _ _ ⟨rfl, hLL⟩
      obtain rfl := hLL.symm
      refine vl_det (det_move rfl) rfl ?_
      refine vl_det (det_extract rfl rfl) rfl ?_
      refine vl_det (det_extract rfl rfl) rfl ?_
      refine vl_det (det_assign rfl) rfl ?_
      refine vl_det (det_assign rfl) rfl ?_
      refine vl_end [(0, _), (3, _), (4, _), (5, _)] ⟨rfl, rfl, rfl, rfl, trivial⟩ ?_
      refine then_next ?_
      refine vc_seq ?_
      refine vc_seq ?_
      refine vc_region ?_
      refine vl_det (det_move rfl) rfl ?_
      refine vl_det (det_neq rfl rfl) rfl ?_
      refine vl_end [(0, _), (3, _), (4, _), (5, _), (23, _)] ⟨rfl, rfl, rfl, rfl, rfl, trivial⟩ ?_
      refine then_next ?_
      refine vc_decideU rfl (fun h23 => ?_) (fun h23 => ?_)
      · skip
        refine vc_seq ?_
        refine vc_region ?_
        refine vl_det (det_move rfl) rfl ?_
        refine vl_det (det_move rfl) rfl ?_
        refine vl_det (det_eql rfl rfl) rfl ?_
        refine vl_det (det_move rfl) rfl ?_
        refine vl_guardp rfl rfl rfl (fun h27 => ?_) (fun h27 => ?_)
        · skip
          refine vl_det (det_move rfl) rfl ?_
          refine vl_guard_t rfl rfl ?_
          refine vl_det (det_len_sl Try.underlying22 rfl) rfl ?_
          refine vl_guard_t rfl rfl ?_
          refine vl_det (det_eql rfl rfl) rfl ?_
          refine vl_det (det_pick_t rfl rfl) rfl ?_
          refine vl_det (det_assign rfl) rfl ?_
          refine vl_end [(2, _)] ⟨rfl, trivial⟩ ?_
          refine then_next ?_
          refine vc_ret ?_
          refine then_ret ?_
          refine ret1 rfl rfl ?_
          rfl
        · skip
          exfalso; exact h27 rfl
      · skip
        exfalso; exact h23 hq
theorem own : ownKnob Try.prog.godebug = none := by kernel_rfl
theorem laidOut : laidOutB Try.prog = true := by kernel_rfl
set_option maxRecDepth 100000 in
theorem lifted (os : Os) (started : os.Started) (H : Type) (enc : TypeId × Value → H) :
    ReturnsInHanded {} Try.checked os 3 .any (Rows.planFlatSpec.pre6 enc Try.prog Try.f3 Rows.planFlatRow.domain false) (Rows.planFlatSpec.post enc Try.prog Try.f3 false true false false) := by
  refine returnsInHanded_of_change (C := Try.checked) own started (by kernel_rfl) Try.func3
    (ChangeSpec.witness6 (enc := enc) (C := Try.checked) false ⟨#[], #[.slice none 0 0], []⟩ 8 (by kernel_rfl) (by kernel_rfl) (by kernel_rfl) (by kernel_rfl)) ?_
  intro W base args ds gs before hval0 hW hcnd _
  have hval : ∀ (j : Nat) t v, Try.f3.params[j]? = some t → args[j]? = some v → Value.okWide Try.prog W .any base t v := hval0
  have hW' := hW
  obtain ⟨p, q, hA0, hV, rfl, hfz, hnd⟩ := hW
  have hA : DataW.TrodAll enc Try.prog W 0 (fun _ => true) true Try.f3.params.toList args.toList ds p := hA0
  rw [Try.params3] at hA hval
  obtain ⟨v0', vs0, d0, ds0, p0, q0, hargs, rfl, rfl, h0', r0⟩ := trodAll_cons hA
  obtain ⟨rfl, rfl, rfl⟩ := trodAll_nil r0
  obtain rfl : args = #[v0'] := by cases args; simp_all
  obtain ⟨rfl, rfl⟩ := trodVars_none hV
  have k0 := h0'
  have lt0 : ∀ x ∈ p0, x.block < W.heap.size := by obtain ⟨m, hm⟩ := k0; exact DataW.trod_lt m _ _ _ hm
  obtain ⟨A0, n0, c0, rfl⟩ := okWide_slice Try.underlying22 (hval 0 22 v0' rfl rfl)
  obtain ⟨⟨u0, L0⟩, e0, hr0, ho0, hm0⟩ := DecT.arg (dec_slice Try.underlying22 (by kernel_rfl : Try.prog.cellsOf 38 = 5) (by omega) (fun _ => rfl) (dec_step W)) k0
  obtain rfl := cells_slice A0 n0 c0 rfl e0
  clear hA0 hval0
  refine (walk W _ L0 hr0 ho0 hm0).mono fun e W' ⟨he, bel⟩ => ?_
  subst he
  exact ⟨_, rfl, _, _, _, [], _, [], hW', trodAll_mk1 (shut_bool Try.underlying4 _), (trodAll_cons_mk (Below.trod laidOut (by kernel_rfl) (of_decide_eq_true (by kernel_rfl)) k0 bel lt0) trodAll_mk0), rfl, bel.frame _, fun h => by cases h⟩

theorem over : Rows.planFlatRow.holds Try.pinned (OpenSpec.ofChange Rows.planFlatSpec) :=
  OpenClaim.holds_of_wide 3 Try.f3 rfl rfl rfl rfl rfl rfl rfl ⟨rfl, rfl, rfl, rfl, rfl⟩ rfl rfl rfl rfl rfl (by kernel_rfl) Try.func3 (by kernel_rfl)
    (of_decide_eq_true (by kernel_rfl)) (by unfold Func.isWrapper; first | (rw [if_pos (by decide +kernel)]; kernel_rfl) | (rw [if_neg (by decide +kernel)]; exact ⟨rfl, rfl⟩))
    (fun os started H enc _ => lifted os started H enc)

theorem proved : Rows.PlanFlatSaid := over
#print axioms proved
end Go.Proofs.Ytakokckokchacaa.lawPlanFlat
