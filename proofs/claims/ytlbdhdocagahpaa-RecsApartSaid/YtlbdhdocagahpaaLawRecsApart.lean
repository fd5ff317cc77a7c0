/-
  'RecsApart': times and levels that were written as columns are read, whatever stands behind them. No condition.
-/
import Derived.Test.YtlbdhdocagahpaaRecM
import Derived.Test.YtlbdhdocagahpaaRows
import Derived.Test.YtlbdhdocagahpaaOpen
namespace Go.Proofs.Ytlbdhdocagahpaa.lawRecsApart
open Go.ChangeShapes Go.WideShapes Go.ChangeAt Go.RowKit
open Go.ChangeMaps (open_string shut_string)
set_option linter.unusedVariables false
set_option maxRecDepth 20000
theorem walk (w : World) (v : Value) (l : List RecC) (hr : Rd w w.heap.size 4 v l.length (l.flatMap RecC.cells)) (ho : ∀ x ∈ l, RecC.ok x) (hm : l.length ≤ maxLen) (v2 : Value) (b : List UInt8) (hr2 : Rd w w.heap.size 1 v2 b.length (bv b)) (hm2 : b.length ≤ maxLen) :
    Calls Try.prog 11 #[v, v2] w fun e w' => e = .returned (.bool true) ∧ Below w.heap.size w w' := by
  obtain ⟨A0, c0, rfl, hc0⟩ := hr.form
  obtain ⟨B0, d0, rfl, hd0⟩ := hr2.form
  have hbo : Bor w.heap.size w [] 4 (.slice A0 l.length c0) l.length (recs l) := Bor.in_ hr
  have hbo2 : Bor w.heap.size w [] 1 (.slice B0 b.length d0) b.length (bv b) := Bor.in_ hr2
  have hx : ∀ x ∈ l, x.1 < 18446744073709551616 := fun x h => (ho x h).1
  simp only [maxLen] at hm hm2
  refine Does.law (args := [.slice A0 l.length c0, .slice B0 b.length d0]) ?_
  refine fn_walk Try.func11 87 rfl rfl rfl [(0, .slice A0 l.length c0), (1, .slice B0 b.length d0)] ⟨⟨rfl, rfl⟩, ⟨rfl, rfl⟩, trivial⟩ ?_
  refine vc_seq ?_
  refine vc_region ?_
  refine vl_det (det_assign rfl) rfl ?_
  refine vl_end [(0, _), (1, _)] ⟨rfl, rfl, trivial⟩ ?_
  refine then_next ?_
  refine vc_seq ?_
  refine vc_seq ?_
  refine vc_region ?_
  refine vl_call co12 rfl (alive_d) rfl ?_
  rintro _ _ ⟨rfl, hLL⟩
  obtain rfl := hLL.symm
  refine vl_det (det_not_t rfl) rfl ?_
  refine vl_end [(0, _), (1, _), (13, _)] ⟨rfl, rfl, rfl, trivial⟩ ?_
  refine then_next ?_
  refine vc_cond_f rfl ?_
  refine vc_skip ?_
  refine then_next ?_
  refine vc_seq ?_
  refine vc_seq ?_
  refine vc_region ?_
  refine vl_det (det_move rfl) rfl ?_
  refine vl_call co15 rfl (great_d l (by first | (exact Bor.own (by repeat (first | exact List.Mem.head _ | apply List.Mem.tail))) | (repeat (first | assumption | apply Bor.cons))) 100 10000 (by omega) (by omega)) rfl ?_
  rintro _ _ ⟨bg, rfl, hLL, hbg⟩
  obtain rfl := hLL.symm
  refine vl_det (det_move rfl) rfl ?_
  refine vl_guard rfl rfl rfl (fun h16 => ?_) (fun h16 => ?_)
  · skip
    have hgr := hbg h16
    refine vl_det (det_move rfl) rfl ?_
    refine vl_guard_t rfl rfl ?_
    refine vl_det (det_len_sl Try.underlying32 rfl) rfl ?_
    refine vl_guard_t rfl rfl ?_
    refine vl_det (det_gtr rfl rfl) rfl ?_
    refine vl_det (det_pick_f rfl rfl) rfl ?_
    refine vl_end [(0, _), (1, _), (20, _)] ⟨rfl, rfl, rfl, trivial⟩ ?_
    refine then_next ?_
    refine vc_decideU rfl (fun h20 => ?_) (fun h20 => ?_)
    · skip
      refine vc_seq ?_
      refine vc_region ?_
      refine vl_det (det_assign rfl) rfl ?_
      refine vl_end [(4, _)] ⟨rfl, trivial⟩ ?_
      refine then_next ?_
      refine vc_ret ?_
      refine then_ret ?_
      refine ret1 rfl rfl ?_
      rfl
    · skip
      have hcl := colB_len (L := l) (by omega)
      have hz := cols_back hx (by omega) b
      refine vc_skip ?_
      refine then_next ?_
      refine vc_seq ?_
      refine vc_region ?_
      refine vl_det (det_move rfl) rfl ?_
      refine vl_call co27 rfl (columns_d l (by first | (exact Bor.own (by repeat (first | exact List.Mem.head _ | apply List.Mem.tail))) | (repeat (first | assumption | apply Bor.cons))) hx (by omega)) rfl ?_
      rintro _ _ ⟨A22, c22, rfl, hLL⟩
      obtain rfl := hLL.symm
      refine vl_det (det_assign rfl) rfl ?_
      refine vl_end [(0, _), (1, _), (5, _)] ⟨rfl, rfl, rfl, trivial⟩ ?_
      refine then_next ?_
      refine vc_seq ?_
      refine vc_region ?_
      refine vl_det (det_assign rfl) rfl ?_
      refine vl_end [(0, _), (1, _), (5, _), (6, _)] ⟨rfl, rfl, rfl, rfl, trivial⟩ ?_
      refine then_next ?_
      refine vc_seq ?_
      refine vc_nil_row 5 1 none ?_
      refine vc_region ?_
      refine vl_det (det_move rfl) rfl ?_
      refine vl_det (det_move rfl) rfl ?_
      refine vl_eff (eff_app slT32 rfl (by repeat (first | exact .hd | apply Sel.tl)) rfl (by first | (exact Bor.own (by repeat (first | exact List.Mem.head _ | apply List.Mem.tail))) | (repeat (first | assumption | apply Bor.cons))) (by first | exact bv_one _ | exact strs_one _ | exact ints_one _ _ | (simp; done) | (simp [Value.oneCell']; done) | assumption) (by omega) (by omega)) rfl ?_
      rintro _ _ ⟨A25, c25, rfl, rfl⟩
      refine vl_det (det_move rfl) rfl ?_
      refine vl_eff (eff_app slT32 rfl (by repeat (first | exact .hd | apply Sel.tl)) rfl (by first | (exact Bor.own (by repeat (first | exact List.Mem.head _ | apply List.Mem.tail))) | (repeat (first | assumption | apply Bor.cons))) (by first | exact bv_one _ | exact strs_one _ | exact ints_one _ _ | (simp; done) | (simp [Value.oneCell']; done) | assumption) (by omega) (by omega)) rfl ?_
      rintro _ _ ⟨A27, c27, rfl, rfl⟩
      rw [show 0 + (colB l).length + b.length = (colB l ++ b).length by simp]
      refine vl_wk (wk_own (ys := bv (colB l ++ b)) rfl (by simp) (.refl _)) ?_
      refine vl_det (det_assign rfl) rfl ?_
      refine vl_end [(0, _), (5, _), (6, _)] ⟨rfl, rfl, rfl, trivial⟩ ?_
      refine then_next ?_
      refine vc_seq ?_
      refine vc_region ?_
      refine vl_det (det_move rfl) rfl ?_
      refine vl_det (det_len_sl Try.underlying22 rfl) rfl ?_
      refine vl_det (det_move rfl) rfl ?_
      refine vl_call co29 rfl (readcols_d (l.length : Int) (l := colB l ++ b) (by first | (exact Bor.own (by repeat (first | exact List.Mem.head _ | apply List.Mem.tail))) | (repeat (first | assumption | apply Bor.cons))) (by simp; omega) (by omega) (by omega)) rfl ?_
      rintro _ _ ⟨A32, c32, D32, e32, rfl, hLL⟩
      obtain rfl := hLL.symm
      rw [hz]
      refine vl_det (det_move rfl) rfl ?_
      refine vl_det (det_extract rfl rfl) rfl ?_
      refine vl_det (det_extract rfl rfl) rfl ?_
      refine vl_det (det_extract rfl rfl) rfl ?_
      refine vl_det (det_extract rfl rfl) rfl ?_
      refine vl_det (det_assign rfl) rfl ?_
      refine vl_det (det_assign rfl) rfl ?_
      refine vl_det (det_assign rfl) rfl ?_
      refine vl_det (det_assign rfl) rfl ?_
      refine vl_end [(0, _), (5, _), (7, _), (8, _), (9, _), (10, _)] ⟨rfl, rfl, rfl, rfl, rfl, rfl, trivial⟩ ?_
      refine then_next ?_
      refine vc_seq ?_
      refine vc_seq ?_
      refine vc_region ?_
      refine vl_det (det_move rfl) rfl ?_
      refine vl_det (det_neq rfl rfl) rfl ?_
      refine vl_det (det_move rfl) rfl ?_
      refine vl_guardn rfl rfl rfl (fun h39 => ?_) (fun h39 => ?_)
      · skip
        refine vl_det (det_move rfl) rfl ?_
        refine vl_guard_t rfl rfl ?_
        refine vl_det (det_move rfl) rfl ?_
        refine vl_guard_t rfl rfl ?_
        refine vl_det (det_len_sl Try.underlying32 rfl) rfl ?_
        refine vl_guard_t rfl rfl ?_
        refine vl_det (det_neq rfl rfl) rfl ?_
        refine vl_det (det_pick_f rfl rfl) rfl ?_
        refine vl_det (det_move rfl) rfl ?_
        refine vl_guardn rfl rfl rfl (fun h45 => ?_) (fun h45 => ?_)
        · skip
          refine vl_det (det_move rfl) rfl ?_
          refine vl_guard_t rfl rfl ?_
          refine vl_det (det_len_sl Try.underlying52 rfl) rfl ?_
          refine vl_guard_t rfl rfl ?_
          refine vl_det (det_move rfl) rfl ?_
          refine vl_guard_t rfl rfl ?_
          refine vl_det (det_len_sl Try.underlying22 rfl) rfl ?_
          refine vl_guard_t rfl rfl ?_
          refine vl_det (det_neq rfl rfl) rfl ?_
          refine vl_det (det_pick_f rfl rfl) rfl ?_
          refine vl_det (det_move rfl) rfl ?_
          refine vl_guardn rfl rfl rfl (fun h52 => ?_) (fun h52 => ?_)
          · skip
            refine vl_det (det_move rfl) rfl ?_
            refine vl_guard_t rfl rfl ?_
            refine vl_det (det_len_sl Try.underlying32 rfl) rfl ?_
            refine vl_guard_t rfl rfl ?_
            refine vl_det (det_move rfl) rfl ?_
            refine vl_guard_t rfl rfl ?_
            refine vl_det (det_len_sl Try.underlying22 rfl) rfl ?_
            refine vl_guard_t rfl rfl ?_
            refine vl_det (det_neq rfl rfl) rfl ?_
            refine vl_det (det_pick_f rfl rfl) rfl ?_
            refine vl_end [(0, _), (7, _), (8, _), (58, _)] ⟨rfl, rfl, rfl, rfl, trivial⟩ ?_
            refine then_next ?_
            refine vc_decideU rfl (fun h58 => ?_) (fun h58 => ?_)
            · skip
              exfalso; exact h58 (by simp [lv_length])
            · skip
              refine vc_skip ?_
              refine then_next ?_
              refine vc_seq ?_
              refine vc_seq ?_
              refine vc_region ?_
              refine vl_det (det_assign rfl) rfl ?_
              refine vl_end [(0, _), (7, _), (8, _), (11, _)] ⟨rfl, rfl, rfl, rfl, trivial⟩ ?_
              refine then_next ?_
              refine vc_block ?_
              refine vc_loopJ (fun zf zL zm => ∃ (k : Nat), (k ≤ l.length) ∧ l.length - k = zm ∧ Sub zf [(0, .slice A0 l.length c0), (7, .slice A32 (l.map (·.1)).length c32), (8, .slice D32 (lv l).length e32), (11, .int .i64 k)] ∧ Wk zL (.own 42 1 A32 (l.map (·.1)).length c32 (u64v (l.map (·.1))) :: .own 5 1 D32 (lv l).length e32 (bv (lv l)) :: .own 5 1 A27 (colB l ++ b).length c27 (bv (colB l ++ b)) :: .own 5 1 A22 (colB l).length c22 (bv (colB l)) :: [])) _ ⟨0, Nat.zero_le _, rfl, ⟨(by first | rfl | exact int_to (by omega) | exact sl_to (by omega)), (by first | rfl | exact int_to (by omega) | exact sl_to (by omega)), (by first | rfl | exact int_to (by omega) | exact sl_to (by omega)), (by first | rfl | exact int_to (by omega) | exact sl_to (by omega)), trivial⟩, .refl _⟩ ?_
              rintro _ _ _ ⟨k, hk, rfl, hs, hp⟩
              refine vc_weaken _ hs (vc_wk hp ?_)
              clear hs hp
              refine vc_seq ?_
              refine vc_seq ?_
              refine vc_region ?_
              refine vl_det (det_move rfl) rfl ?_
              refine vl_det (det_move rfl) rfl ?_
              refine vl_det (det_len_sl Try.underlying22 rfl) rfl ?_
              refine vl_det (det_lss rfl rfl) rfl ?_
              refine vl_end [(0, _), (7, _), (8, _), (11, _), (62, _)] ⟨rfl, rfl, rfl, rfl, rfl, trivial⟩ ?_
              refine then_next ?_
              refine vc_decideU rfl (fun h62 => ?_) (fun h62 => ?_)
              · skip
                have hml : (l.map (·.1)).length = l.length := List.length_map ..
                have hll := lv_length l
                have hld : (u64v (l.map (·.1)))[k * 1]? = some (.int .u64 (recAt l k).1) := by simp [u64v, recAt, List.getD, List.getElem?_eq_getElem (show k < l.length by omega)]
                refine vc_skip ?_
                refine then_next ?_
                refine vc_seq ?_
                refine vc_block ?_
                refine vc_seq ?_
                refine vq_region (by kernel_rfl) (by kernel_rfl) ?_
                refine vq_det (det_move rfl) rfl ?_
                refine vq_det (det_move rfl) rfl ?_
                refine vq_det (det_indexAddr (size := 1) Try.underlying52 (by kernel_rfl) rfl rfl rfl (by omega) (by first | (exact Bor.own (by repeat (first | exact List.Mem.head _ | apply List.Mem.tail))) | (repeat (first | assumption | apply Bor.cons)))) rfl ?_
                refine vq_det (det_load_row (by kernel_rfl) rfl (by first | (exact Bor.own (by repeat (first | exact List.Mem.head _ | apply List.Mem.tail))) | (repeat (first | assumption | apply Bor.cons))) (by omega) hld) rfl ?_
                refine vq_det (det_move rfl) rfl ?_
                refine vq_det (det_move rfl) rfl ?_
                refine vq_det (det_indexAddr (size := 4) Try.underlying22 (by kernel_rfl) rfl rfl rfl (by omega) (by first | (exact Bor.own (by repeat (first | exact List.Mem.head _ | apply List.Mem.tail))) | (repeat (first | assumption | apply Bor.cons)))) rfl ?_
                refine vq_det (det_fieldAddr_row_ Try.underlying44 rfl (by kernel_rfl) rfl (by first | (exact Bor.own (by repeat (first | exact List.Mem.head _ | apply List.Mem.tail))) | (repeat (first | assumption | apply Bor.cons))) (by omega) rfl) rfl ?_
                refine vq_det (det_load_rowf (by kernel_rfl) rfl (by first | (exact Bor.own (by repeat (first | exact List.Mem.head _ | apply List.Mem.tail))) | (repeat (first | assumption | apply Bor.cons))) (by omega) ((rec_get (by omega) (by decide)).trans rfl)) rfl ?_
                refine vq_det (det_neq rfl rfl) rfl ?_
                refine vq_det (det_move rfl) rfl ?_
                refine vq_guardn rfl rfl rfl (fun h75 => ?_) (fun h75 => ?_)
                · skip
                  refine vq_det (det_move rfl) rfl ?_
                  refine vq_guard_t rfl rfl ?_
                  refine vq_det (det_move rfl) rfl ?_
                  refine vq_guard_t rfl rfl ?_
                  refine vq_det (det_indexAddr (size := 1) Try.underlying32 (by kernel_rfl) rfl rfl rfl (by omega) (by first | (exact Bor.own (by repeat (first | exact List.Mem.head _ | apply List.Mem.tail))) | (repeat (first | assumption | apply Bor.cons)))) rfl ?_
                  refine vq_guard_t rfl rfl ?_
                  refine vq_det (det_load_u8 (by kernel_rfl) rfl (by first | (exact Bor.own (by repeat (first | exact List.Mem.head _ | apply List.Mem.tail))) | (repeat (first | assumption | apply Bor.cons))) (by omega)) rfl ?_
                  refine vq_guard_t rfl rfl ?_
                  refine vq_det (det_move rfl) rfl ?_
                  refine vq_guard_t rfl rfl ?_
                  refine vq_det (det_move rfl) rfl ?_
                  refine vq_guard_t rfl rfl ?_
                  refine vq_det (det_indexAddr (size := 4) Try.underlying22 (by kernel_rfl) rfl rfl rfl (by omega) (by first | (exact Bor.own (by repeat (first | exact List.Mem.head _ | apply List.Mem.tail))) | (repeat (first | assumption | apply Bor.cons)))) rfl ?_
                  refine vq_guard_t rfl rfl ?_
                  refine vq_det (det_fieldAddr_row_ Try.underlying44 rfl (by kernel_rfl) rfl (by first | (exact Bor.own (by repeat (first | exact List.Mem.head _ | apply List.Mem.tail))) | (repeat (first | assumption | apply Bor.cons))) (by omega) rfl) rfl ?_
                  refine vq_guard_t rfl rfl ?_
                  refine vq_det (det_load_rowf (by kernel_rfl) rfl (by first | (exact Bor.own (by repeat (first | exact List.Mem.head _ | apply List.Mem.tail))) | (repeat (first | assumption | apply Bor.cons))) (by omega) ((rec_get (by omega) (by decide)).trans rfl)) rfl ?_
                  refine vq_guard_t rfl rfl ?_
                  refine vq_det (det_neq rfl rfl) rfl ?_
                  refine vq_det (det_pick_f rfl rfl) rfl ?_
                  refine vq_end [(0, _), (7, _), (8, _), (11, _), (86, _)] ⟨rfl, rfl, rfl, rfl, rfl, trivial⟩ ?_
                  refine then_next ?_
                  refine vc_decideU rfl (fun h86 => ?_) (fun h86 => ?_)
                  · skip
                    exfalso; exact h86 (by rw [lv_get])
                  · skip
                    refine vc_skip ?_
                    refine in_normal ?_
                    refine then_next ?_
                    refine vc_region ?_
                    refine vl_det (det_move rfl) rfl ?_
                    refine vl_det (det_add rfl rfl (w_i64 (by omega) (by omega))) rfl ?_
                    refine vl_det (det_assign rfl) rfl ?_
                    refine vl_end [(0, _), (7, _), (8, _), (11, _)] ⟨rfl, rfl, rfl, rfl, trivial⟩ ?_
                    refine in_loop_ ⟨_, by omega, k + 1, by omega, rfl, ⟨(by first | rfl | exact int_to (by omega) | exact sl_to (by omega)), (by first | rfl | exact int_to (by omega) | exact sl_to (by omega)), (by first | rfl | exact int_to (by omega) | exact sl_to (by omega)), (by first | rfl | exact int_to (by omega) | exact sl_to (by omega)), trivial⟩, .refl _⟩
                · skip
                  exfalso; exact h75 rfl
              · skip
                refine vc_exit ?_
                refine then_exit ?_
                refine loop_exit ?_
                refine in_eq ?_
                refine then_next ?_
                refine vc_seq ?_
                refine vc_region ?_
                refine vl_det (det_assign rfl) rfl ?_
                refine vl_end [(4, _)] ⟨rfl, trivial⟩ ?_
                refine then_next ?_
                refine vc_ret ?_
                refine ret_wk (L' := []) (.skip (.skip (.skip (.skip (.refl _))))) ?_
                refine ret1 rfl rfl ?_
                rfl
          · skip
            exfalso; exact h52 (by simp)
        · skip
          exfalso; exact h45 rfl
      · skip
        exfalso; exact h39 rfl
  · skip
    refine vl_guard_f rfl rfl rfl rfl ?_
    refine vl_guard_f rfl rfl rfl rfl ?_
    refine vl_det (det_pick_t rfl rfl) rfl ?_
    refine vl_end [(0, _), (1, _), (20, _)] ⟨rfl, rfl, rfl, trivial⟩ ?_
    refine then_next ?_
    refine vc_cond_t rfl ?_
    refine vc_seq ?_
    refine vc_region ?_
    refine vl_det (det_assign rfl) rfl ?_
    refine vl_end [(4, _)] ⟨rfl, trivial⟩ ?_
    refine then_next ?_
    refine vc_ret ?_
    refine then_ret ?_
    refine ret1 rfl rfl ?_
    rfl
theorem own : ownKnob Try.prog.godebug = none := by kernel_rfl
theorem laidOut : laidOutB Try.prog = true := by kernel_rfl
set_option maxRecDepth 100000 in
theorem lifted (os : Os) (started : os.Started) (H : Type) (enc : TypeId × Value → H) :
    ReturnsInHanded {} Try.checked os 11 .any (Rows.recsApartSpec.pre6 enc Try.prog Try.f11 Rows.recsApartRow.domain false) (Rows.recsApartSpec.post enc Try.prog Try.f11 false true false false) := by
  refine returnsInHanded_of_change (C := Try.checked) own started (by kernel_rfl) Try.func11
    (ChangeSpec.witness6 (enc := enc) (C := Try.checked) false ⟨#[], #[.slice none 0 0, .slice none 0 0], []⟩ 8 (by kernel_rfl) (by kernel_rfl) (by kernel_rfl) (by kernel_rfl)) ?_
  intro W base args ds gs before hval0 hW hcnd _
  have hval : ∀ (j : Nat) t v, Try.f11.params[j]? = some t → args[j]? = some v → Value.okWide Try.prog W .any base t v := hval0
  have hW' := hW
  obtain ⟨p, q, hA0, hV, rfl, hfz, hnd⟩ := hW
  have hA : DataW.TrodAll enc Try.prog W 0 (fun _ => true) true Try.f11.params.toList args.toList ds p := hA0
  rw [Try.params11] at hA hval
  obtain ⟨v0', vs0, d0, ds0, p0, q0, hargs, rfl, rfl, h0', r0⟩ := trodAll_cons hA
  obtain ⟨v1', vs1, d1, ds1, p1, q1, rfl, rfl, rfl, h1', r1⟩ := trodAll_cons r0
  obtain ⟨rfl, rfl, rfl⟩ := trodAll_nil r1
  obtain rfl : args = #[v0', v1'] := by cases args; simp_all
  obtain ⟨rfl, rfl⟩ := trodVars_none hV
  have k0 := h0'
  have lt0 : ∀ x ∈ p0, x.block < W.heap.size := by obtain ⟨m, hm⟩ := k0; exact DataW.trod_lt m _ _ _ hm
  obtain ⟨A0, n0, c0, rfl⟩ := okWide_slice Try.underlying22 (hval 0 22 v0' rfl rfl)
  obtain ⟨⟨u0, L0⟩, e0, hr0, ho0, hm0⟩ := DecT.arg (dec_slice Try.underlying22 (by kernel_rfl : Try.prog.cellsOf 44 = 4) (by omega) (fun _ => rfl) (dec_rec W)) k0
  obtain rfl := cells_slice A0 n0 c0 rfl e0
  have k1 := h1'
  have lt1 : ∀ x ∈ p1, x.block < W.heap.size := by obtain ⟨m, hm⟩ := k1; exact DataW.trod_lt m _ _ _ hm
  obtain ⟨A1, n1, c1, rfl⟩ := okWide_slice Try.underlying32 (hval 1 32 v1' rfl rfl)
  obtain ⟨⟨u1, L1⟩, e1, hr1, ho1, hm1⟩ := DecT.arg (dec_slice Try.underlying32 (by kernel_rfl : Try.prog.cellsOf 5 = 1) (by omega) (fun _ => rfl) (dec_u8 (w := W) Try.underlying5)) k1
  obtain rfl := cells_slice A1 n1 c1 rfl e1
  rw [flatMap_bv] at hr1
  clear hA0 hval0
  refine (walk W _ L0 hr0 ho0 hm0 _ L1 hr1 hm1).mono fun e W' ⟨he, bel⟩ => ?_
  subst he
  exact ⟨_, rfl, _, _, _, [], _, [], hW', trodAll_mk1 (shut_bool Try.underlying4 _), (trodAll_cons_mk (Below.trod laidOut (by kernel_rfl) (of_decide_eq_true (by kernel_rfl)) k0 bel lt0) (trodAll_cons_mk (Below.trod laidOut (by kernel_rfl) (of_decide_eq_true (by kernel_rfl)) k1 bel lt1) trodAll_mk0)), rfl, bel.frame _, fun h => by cases h⟩

theorem over : Rows.recsApartRow.holds Try.pinned (OpenSpec.ofChange Rows.recsApartSpec) :=
  OpenClaim.holds_of_wide 11 Try.f11 rfl rfl rfl rfl rfl rfl rfl ⟨rfl, rfl, rfl, rfl, rfl⟩ rfl rfl rfl rfl rfl (by kernel_rfl) Try.func11 (by kernel_rfl)
    (of_decide_eq_true (by kernel_rfl)) (by unfold Func.isWrapper; first | (rw [if_pos (by decide +kernel)]; kernel_rfl) | (rw [if_neg (by decide +kernel)]; exact ⟨rfl, rfl⟩))
    (fun os started H enc _ => lifted os started H enc)

theorem proved : Rows.RecsApartSaid := over
#print axioms proved
end Go.Proofs.Ytlbdhdocagahpaa.lawRecsApart
