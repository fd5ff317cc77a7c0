/-
  'RecsColumns': the columns of any log, and what any bytes are as columns of any number of records, are the document's. No condition.
-/
import Derived.Test.YtlbdhdocagahpaaRecM
import Derived.Test.YtlbdhdocagahpaaRows
import Derived.Test.YtlbdhdocagahpaaOpen
namespace Go.Proofs.Ytlbdhdocagahpaa.lawRecsColumns
open Go.ChangeShapes Go.WideShapes Go.ChangeAt Go.RowKit
open Go.ChangeMaps (open_string shut_string)
set_option linter.unusedVariables false
set_option maxRecDepth 20000
theorem walk (w : World) (v : Value) (l : List RecC) (hr : Rd w w.heap.size 4 v l.length (l.flatMap RecC.cells)) (ho : ∀ x ∈ l, RecC.ok x) (hm : l.length ≤ maxLen) (n : Int) (hn : -9223372036854775808 ≤ n ∧ n ≤ 9223372036854775807) (v2 : Value) (b : List UInt8) (hr2 : Rd w w.heap.size 1 v2 b.length (bv b)) (hm2 : b.length ≤ maxLen) :
    Calls Try.prog 10 #[v, .int .i64 n, v2] w fun e w' => e = .returned (.bool true) ∧ Below w.heap.size w w' := by
  obtain ⟨A0, c0, rfl, hc0⟩ := hr.form
  obtain ⟨B0, d0, rfl, hd0⟩ := hr2.form
  have hbo : Bor w.heap.size w [] 4 (.slice A0 l.length c0) l.length (recs l) := Bor.in_ hr
  have hbo2 : Bor w.heap.size w [] 1 (.slice B0 b.length d0) b.length (bv b) := Bor.in_ hr2
  have hx : ∀ x ∈ l, x.1 < 18446744073709551616 := fun x h => (ho x h).1
  simp only [maxLen] at hm hm2
  refine Does.law (args := [.slice A0 l.length c0, .int .i64 n, .slice B0 b.length d0]) ?_
  refine fn_walk Try.func10 83 rfl rfl rfl [(0, .slice A0 l.length c0), (1, .int .i64 n), (2, .slice B0 b.length d0)] ⟨⟨rfl, rfl⟩, ⟨rfl, rfl⟩, ⟨rfl, rfl⟩, trivial⟩ ?_
  refine vc_seq ?_
  refine vc_region ?_
  refine vl_det (det_assign rfl) rfl ?_
  refine vl_end [(0, _), (1, _), (2, _)] ⟨rfl, rfl, rfl, trivial⟩ ?_
  refine then_next ?_
  refine vc_seq ?_
  refine vc_seq ?_
  refine vc_region ?_
  refine vl_call co12 rfl (alive_d) rfl ?_
  rintro _ _ ⟨rfl, hLL⟩
  obtain rfl := hLL.symm
  refine vl_det (det_not_t rfl) rfl ?_
  refine vl_end [(0, _), (1, _), (2, _), (17, _)] ⟨rfl, rfl, rfl, rfl, trivial⟩ ?_
  refine then_next ?_
  refine vc_cond_f rfl ?_
  refine vc_skip ?_
  refine then_next ?_
  refine vc_seq ?_
  refine vc_seq ?_
  refine vc_region ?_
  refine vl_det (det_move rfl) rfl ?_
  refine vl_call co15 rfl (great_d l (by first | (exact Bor.own (by repeat (first | exact List.Mem.head _ | apply List.Mem.tail))) | (repeat (first | assumption | apply Bor.cons))) 100 10000 (by omega) (by omega)) rfl ?_
  rintro _ _ ⟨bg, rfl, hLL, hbg⟩
  obtain rfl := hLL.symm
  refine vl_det (det_move rfl) rfl ?_
  refine vl_guard rfl rfl rfl (fun h20 => ?_) (fun h20 => ?_)
  · skip
    have hgr := hbg h20
    refine vl_det (det_move rfl) rfl ?_
    refine vl_guard_t rfl rfl ?_
    refine vl_det (det_len_sl Try.underlying32 rfl) rfl ?_
    refine vl_guard_t rfl rfl ?_
    refine vl_det (det_gtr rfl rfl) rfl ?_
    refine vl_det (det_pick_f rfl rfl) rfl ?_
    refine vl_end [(0, _), (1, _), (2, _), (24, _)] ⟨rfl, rfl, rfl, rfl, trivial⟩ ?_
    refine then_next ?_
    refine vc_decideU rfl (fun h24 => ?_) (fun h24 => ?_)
    · skip
      refine vc_seq ?_
      refine vc_region ?_
      refine vl_det (det_assign rfl) rfl ?_
      refine vl_end [(6, _)] ⟨rfl, trivial⟩ ?_
      refine then_next ?_
      refine vc_ret ?_
      refine then_ret ?_
      refine ret1 rfl rfl ?_
      rfl
    · skip
      refine vc_skip ?_
      refine then_next ?_
      refine vc_seq ?_
      refine vc_seq ?_
      refine vc_region ?_
      refine vl_det (det_move rfl) rfl ?_
      refine vl_call co27 rfl (columns_d l (by first | (exact Bor.own (by repeat (first | exact List.Mem.head _ | apply List.Mem.tail))) | (repeat (first | assumption | apply Bor.cons))) hx (by omega)) rfl ?_
      rintro _ _ ⟨A26, c26, rfl, hLL⟩
      obtain rfl := hLL.symm
      refine vl_det (det_move rfl) rfl ?_
      refine vl_call co28 rfl (rcolumns_d l (by first | (exact Bor.own (by repeat (first | exact List.Mem.head _ | apply List.Mem.tail))) | (repeat (first | assumption | apply Bor.cons))) hx (by omega)) rfl ?_
      rintro _ _ ⟨A28, c28, rfl, hLL⟩
      obtain rfl := hLL.symm
      refine vl_call co18 rfl (same_d (by first | (exact Bor.own (by repeat (first | exact List.Mem.head _ | apply List.Mem.tail))) | (repeat (first | assumption | apply Bor.cons))) (by first | (exact Bor.own (by repeat (first | exact List.Mem.head _ | apply List.Mem.tail))) | (repeat (first | assumption | apply Bor.cons)))) rfl ?_
      rintro _ _ ⟨rfl, hLL⟩
      obtain rfl := hLL.symm
      refine vl_det (det_notd rfl) rfl ?_
      refine vl_end [(1, _), (2, _), (30, _)] ⟨rfl, rfl, rfl, trivial⟩ ?_
      refine then_next ?_
      refine vc_decideU rfl (fun h30 => ?_) (fun h30 => ?_)
      · skip
        exfalso; exact h30 rfl
      · skip
        refine vc_skip ?_
        refine then_next ?_
        refine vc_seq ?_
        refine vc_region ?_
        refine vl_det (det_move rfl) rfl ?_
        refine vl_det (det_move rfl) rfl ?_
        refine vl_call co29 rfl (readcols_d n (by first | (exact Bor.own (by repeat (first | exact List.Mem.head _ | apply List.Mem.tail))) | (repeat (first | assumption | apply Bor.cons))) (by omega) hn.1 hn.2) rfl ?_
        rintro _ _ ⟨A34, c34, D34, e34, rfl, hLL⟩
        obtain rfl := hLL.symm
        refine vl_det (det_move rfl) rfl ?_
        refine vl_det (det_extract rfl rfl) rfl ?_
        refine vl_det (det_extract rfl rfl) rfl ?_
        refine vl_det (det_extract rfl rfl) rfl ?_
        refine vl_det (det_extract rfl rfl) rfl ?_
        refine vl_det (det_assign rfl) rfl ?_
        refine vl_det (det_assign rfl) rfl ?_
        refine vl_det (det_assign rfl) rfl ?_
        refine vl_det (det_assign rfl) rfl ?_
        refine vl_end [(1, _), (2, _), (7, _), (8, _), (9, _), (10, _)] ⟨rfl, rfl, rfl, rfl, rfl, rfl, trivial⟩ ?_
        refine then_next ?_
        refine vc_seq ?_
        refine vc_region ?_
        refine vl_det (det_move rfl) rfl ?_
        refine vl_det (det_move rfl) rfl ?_
        refine vl_call co30 rfl (rreadcols_d n (by first | (exact Bor.own (by repeat (first | exact List.Mem.head _ | apply List.Mem.tail))) | (repeat (first | assumption | apply Bor.cons))) (by omega) hn.1 hn.2) rfl ?_
        rintro _ _ ⟨A42, c42, D42, e42, rfl, hLL⟩
        obtain rfl := hLL.symm
        refine vl_det (det_move rfl) rfl ?_
        refine vl_det (det_extract rfl rfl) rfl ?_
        refine vl_det (det_extract rfl rfl) rfl ?_
        refine vl_det (det_extract rfl rfl) rfl ?_
        refine vl_det (det_extract rfl rfl) rfl ?_
        refine vl_det (det_assign rfl) rfl ?_
        refine vl_det (det_assign rfl) rfl ?_
        refine vl_det (det_assign rfl) rfl ?_
        refine vl_det (det_assign rfl) rfl ?_
        refine vl_end [(7, _), (8, _), (9, _), (10, _), (11, _), (12, _), (13, _), (14, _)] ⟨rfl, rfl, rfl, rfl, rfl, rfl, rfl, rfl, trivial⟩ ?_
        refine then_next ?_
        refine vc_seq ?_
        refine vc_seq ?_
        refine vc_region ?_
        refine vl_det (det_move rfl) rfl ?_
        refine vl_det (det_move rfl) rfl ?_
        refine vl_det (det_neq rfl rfl) rfl ?_
        refine vl_det (det_move rfl) rfl ?_
        refine vl_guardn rfl rfl rfl (fun h50 => ?_) (fun h50 => ?_)
        · skip
          refine vl_det (det_move rfl) rfl ?_
          refine vl_guard_t rfl rfl ?_
          refine vl_det (det_move rfl) rfl ?_
          refine vl_guard_t rfl rfl ?_
          refine vl_det (det_neq rfl rfl) rfl ?_
          refine vl_det (det_pick_f rfl rfl) rfl ?_
          refine vl_det (det_move rfl) rfl ?_
          refine vl_guardn rfl rfl rfl (fun h55 => ?_) (fun h55 => ?_)
          · skip
            refine vl_det (det_move rfl) rfl ?_
            refine vl_guard_t rfl rfl ?_
            refine vl_det (det_len_sl Try.underlying52 rfl) rfl ?_
            refine vl_guard_t rfl rfl ?_
            refine vl_det (det_move rfl) rfl ?_
            refine vl_guard_t rfl rfl ?_
            refine vl_det (det_len_sl Try.underlying52 rfl) rfl ?_
            refine vl_guard_t rfl rfl ?_
            refine vl_det (det_neq rfl rfl) rfl ?_
            refine vl_det (det_pick_f rfl rfl) rfl ?_
            refine vl_det (det_move rfl) rfl ?_
            refine vl_guardn rfl rfl rfl (fun h62 => ?_) (fun h62 => ?_)
            · skip
              refine vl_det (det_move rfl) rfl ?_
              refine vl_guard_t rfl rfl ?_
              refine vl_det (det_move rfl) rfl ?_
              refine vl_guard_t rfl rfl ?_
              refine vl_call co18 rfl (same_d (by first | (exact Bor.own (by repeat (first | exact List.Mem.head _ | apply List.Mem.tail))) | (repeat (first | assumption | apply Bor.cons))) (by first | (exact Bor.own (by repeat (first | exact List.Mem.head _ | apply List.Mem.tail))) | (repeat (first | assumption | apply Bor.cons)))) rfl ?_
              rintro _ _ ⟨rfl, hLL⟩
              obtain rfl := hLL.symm
              refine vl_guard_t rfl rfl ?_
              refine vl_det (det_notd rfl) rfl ?_
              refine vl_det (det_pick_f rfl rfl) rfl ?_
              refine vl_end [(7, _), (11, _), (67, _)] ⟨rfl, rfl, rfl, trivial⟩ ?_
              refine then_next ?_
              refine vc_decideU rfl (fun h67 => ?_) (fun h67 => ?_)
              · skip
                exfalso; exact h67 rfl
              · skip
                refine vc_skip ?_
                refine then_next ?_
                refine vc_seq ?_
                refine vc_seq ?_
                generalize hT : (rcR n b).1 = T
                generalize (rcR n b).2.1 = V
                have hTl : T.length ≤ 20000 := by rw [← hT]; exact rcR_len n b
                refine vc_region ?_
                refine vl_det (det_assign rfl) rfl ?_
                refine vl_end [(7, _), (11, _), (15, _)] ⟨rfl, rfl, rfl, trivial⟩ ?_
                refine then_next ?_
                refine vc_block ?_
                refine vc_loopJ (fun zf zL zm => ∃ (k : Nat), (k ≤ T.length) ∧ T.length - k = zm ∧ Sub zf [(7, .slice A34 T.length c34), (11, .slice A42 T.length c42), (15, .int .i64 k)] ∧ Wk zL (.own 42 1 A42 T.length c42 (u64v T) :: .own 5 1 D42 V.length e42 (bv V) :: .own 42 1 A34 T.length c34 (u64v T) :: .own 5 1 D34 V.length e34 (bv V) :: .own 5 1 A28 (colB l).length c28 (bv (colB l)) :: .own 5 1 A26 (colB l).length c26 (bv (colB l)) :: [])) _ ⟨0, Nat.zero_le _, rfl, ⟨(by first | rfl | exact int_to (by omega) | exact sl_to (by omega)), (by first | rfl | exact int_to (by omega) | exact sl_to (by omega)), (by first | rfl | exact int_to (by omega) | exact sl_to (by omega)), trivial⟩, .refl _⟩ ?_
                rintro _ _ _ ⟨k, hk, rfl, hs, hp⟩
                refine vc_weaken _ hs (vc_wk hp ?_)
                clear hs hp
                refine vc_seq ?_
                refine vc_seq ?_
                refine vc_region ?_
                refine vl_det (det_move rfl) rfl ?_
                refine vl_det (det_move rfl) rfl ?_
                refine vl_det (det_len_sl Try.underlying52 rfl) rfl ?_
                refine vl_det (det_lss rfl rfl) rfl ?_
                refine vl_end [(7, _), (11, _), (15, _), (71, _)] ⟨rfl, rfl, rfl, rfl, trivial⟩ ?_
                refine then_next ?_
                refine vc_decideU rfl (fun h71 => ?_) (fun h71 => ?_)
                · skip
                  have hld : (u64v T)[k * 1]? = some (.int .u64 (T.getD k 0 : Nat)) := by simp [u64v, List.getD, List.getElem?_eq_getElem (show k < T.length by omega)]
                  refine vc_skip ?_
                  refine then_next ?_
                  refine vc_seq ?_
                  refine vc_block ?_
                  refine vc_seq ?_
                  refine vq_region (by kernel_rfl) (by kernel_rfl) ?_
                  refine vq_det (det_move rfl) rfl ?_
                  refine vq_det (det_move rfl) rfl ?_
                  refine vq_det (det_indexAddr (size := 1) Try.underlying52 (by kernel_rfl) rfl rfl rfl (by omega) (by first | (exact Bor.own (by repeat (first | exact List.Mem.head _ | apply List.Mem.tail))) | (repeat (first | assumption | apply Bor.cons)))) rfl ?_
                  refine vq_det (det_load_row (by kernel_rfl) rfl (by first | (exact Bor.own (by repeat (first | exact List.Mem.head _ | apply List.Mem.tail))) | (repeat (first | assumption | apply Bor.cons))) (by omega) hld) rfl ?_
                  refine vq_det (det_move rfl) rfl ?_
                  refine vq_det (det_move rfl) rfl ?_
                  refine vq_det (det_indexAddr (size := 1) Try.underlying52 (by kernel_rfl) rfl rfl rfl (by omega) (by first | (exact Bor.own (by repeat (first | exact List.Mem.head _ | apply List.Mem.tail))) | (repeat (first | assumption | apply Bor.cons)))) rfl ?_
                  refine vq_det (det_load_row (by kernel_rfl) rfl (by first | (exact Bor.own (by repeat (first | exact List.Mem.head _ | apply List.Mem.tail))) | (repeat (first | assumption | apply Bor.cons))) (by omega) hld) rfl ?_
                  refine vq_det (det_neq rfl rfl) rfl ?_
                  refine vq_end [(7, _), (11, _), (15, _), (82, _)] ⟨rfl, rfl, rfl, rfl, trivial⟩ ?_
                  refine then_next ?_
                  refine vc_decideU rfl (fun h82 => ?_) (fun h82 => ?_)
                  · skip
                    exfalso; exact h82 rfl
                  · skip
                    refine vc_skip ?_
                    refine in_normal ?_
                    refine then_next ?_
                    refine vc_region ?_
                    refine vl_det (det_move rfl) rfl ?_
                    refine vl_det (det_add rfl rfl (w_i64 (by omega) (by omega))) rfl ?_
                    refine vl_det (det_assign rfl) rfl ?_
                    refine vl_end [(7, _), (11, _), (15, _)] ⟨rfl, rfl, rfl, trivial⟩ ?_
                    refine in_loop_ ⟨_, by omega, k + 1, by omega, rfl, ⟨(by first | rfl | exact int_to (by omega) | exact sl_to (by omega)), (by first | rfl | exact int_to (by omega) | exact sl_to (by omega)), (by first | rfl | exact int_to (by omega) | exact sl_to (by omega)), trivial⟩, .refl _⟩
                · skip
                  refine vc_exit ?_
                  refine then_exit ?_
                  refine loop_exit ?_
                  refine in_eq ?_
                  refine then_next ?_
                  refine vc_seq ?_
                  refine vc_region ?_
                  refine vl_det (det_assign rfl) rfl ?_
                  refine vl_end [(6, _)] ⟨rfl, trivial⟩ ?_
                  refine then_next ?_
                  refine vc_ret ?_
                  refine ret_wk (L' := []) (.skip (.skip (.skip (.skip (.skip (.skip (.refl _))))))) ?_
                  refine ret1 rfl rfl ?_
                  rfl
            · skip
              exfalso; exact h62 rfl
          · skip
            exfalso; exact h55 rfl
        · skip
          exfalso; exact h50 rfl
  · skip
    refine vl_guard_f rfl rfl rfl rfl ?_
    refine vl_guard_f rfl rfl rfl rfl ?_
    refine vl_det (det_pick_t rfl rfl) rfl ?_
    refine vl_end [(0, _), (1, _), (2, _), (24, _)] ⟨rfl, rfl, rfl, rfl, trivial⟩ ?_
    refine then_next ?_
    refine vc_cond_t rfl ?_
    refine vc_seq ?_
    refine vc_region ?_
    refine vl_det (det_assign rfl) rfl ?_
    refine vl_end [(6, _)] ⟨rfl, trivial⟩ ?_
    refine then_next ?_
    refine vc_ret ?_
    refine then_ret ?_
    refine ret1 rfl rfl ?_
    rfl
theorem own : ownKnob Try.prog.godebug = none := by kernel_rfl
theorem laidOut : laidOutB Try.prog = true := by kernel_rfl
set_option maxRecDepth 100000 in
theorem lifted (os : Os) (started : os.Started) (H : Type) (enc : TypeId × Value → H) :
    ReturnsInHanded {} Try.checked os 10 .any (Rows.recsColumnsSpec.pre6 enc Try.prog Try.f10 Rows.recsColumnsRow.domain false) (Rows.recsColumnsSpec.post enc Try.prog Try.f10 false true false false) := by
  refine returnsInHanded_of_change (C := Try.checked) own started (by kernel_rfl) Try.func10
    (ChangeSpec.witness6 (enc := enc) (C := Try.checked) false ⟨#[], #[.slice none 0 0, .int .i64 0, .slice none 0 0], []⟩ 8 (by kernel_rfl) (by kernel_rfl) (by kernel_rfl) (by kernel_rfl)) ?_
  intro W base args ds gs before hval0 hW hcnd _
  have hval : ∀ (j : Nat) t v, Try.f10.params[j]? = some t → args[j]? = some v → Value.okWide Try.prog W .any base t v := hval0
  have hW' := hW
  obtain ⟨p, q, hA0, hV, rfl, hfz, hnd⟩ := hW
  have hA : DataW.TrodAll enc Try.prog W 0 (fun _ => true) true Try.f10.params.toList args.toList ds p := hA0
  rw [Try.params10] at hA hval
  obtain ⟨v0', vs0, d0, ds0, p0, q0, hargs, rfl, rfl, h0', r0⟩ := trodAll_cons hA
  obtain ⟨v1', vs1, d1, ds1, p1, q1, rfl, rfl, rfl, h1', r1⟩ := trodAll_cons r0
  obtain ⟨v2', vs2, d2, ds2, p2, q2, rfl, rfl, rfl, h2', r2⟩ := trodAll_cons r1
  obtain ⟨rfl, rfl, rfl⟩ := trodAll_nil r2
  obtain rfl : args = #[v0', v1', v2'] := by cases args; simp_all
  obtain ⟨rfl, rfl⟩ := trodVars_none hV
  have k0 := h0'
  have lt0 : ∀ x ∈ p0, x.block < W.heap.size := by obtain ⟨m, hm⟩ := k0; exact DataW.trod_lt m _ _ _ hm
  obtain ⟨A0, n0, c0, rfl⟩ := okWide_slice Try.underlying22 (hval 0 22 v0' rfl rfl)
  obtain ⟨⟨u0, L0⟩, e0, hr0, ho0, hm0⟩ := DecT.arg (dec_slice Try.underlying22 (by kernel_rfl : Try.prog.cellsOf 44 = 4) (by omega) (fun _ => rfl) (dec_rec W)) k0
  obtain rfl := cells_slice A0 n0 c0 rfl e0
  have k1 := h1'
  have lt1 : ∀ x ∈ p1, x.block < W.heap.size := by obtain ⟨m, hm⟩ := k1; exact DataW.trod_lt m _ _ _ hm
  obtain ⟨a1, rfl, hd1, hp1, w1⟩ := open_int Try.underlying3 (hval 1 3 v1' rfl rfl) h1'
  have k2 := h2'
  have lt2 : ∀ x ∈ p2, x.block < W.heap.size := by obtain ⟨m, hm⟩ := k2; exact DataW.trod_lt m _ _ _ hm
  obtain ⟨A2, n2, c2, rfl⟩ := okWide_slice Try.underlying32 (hval 2 32 v2' rfl rfl)
  obtain ⟨⟨u2, L2⟩, e2, hr2, ho2, hm2⟩ := DecT.arg (dec_slice Try.underlying32 (by kernel_rfl : Try.prog.cellsOf 5 = 1) (by omega) (fun _ => rfl) (dec_u8 (w := W) Try.underlying5)) k2
  obtain rfl := cells_slice A2 n2 c2 rfl e2
  rw [flatMap_bv] at hr2
  clear hA0 hval0
  refine (walk W _ L0 hr0 ho0 hm0 a1 (bounds_i64 w1) _ L2 hr2 hm2).mono fun e W' ⟨he, bel⟩ => ?_
  subst he
  exact ⟨_, rfl, _, _, _, [], _, [], hW', trodAll_mk1 (shut_bool Try.underlying4 _), (trodAll_cons_mk (Below.trod laidOut (by kernel_rfl) (of_decide_eq_true (by kernel_rfl)) k0 bel lt0) (trodAll_cons_mk (Below.trod laidOut (by kernel_rfl) (of_decide_eq_true (by kernel_rfl)) k1 bel lt1) (trodAll_cons_mk (Below.trod laidOut (by kernel_rfl) (of_decide_eq_true (by kernel_rfl)) k2 bel lt2) trodAll_mk0))), rfl, bel.frame _, fun h => by cases h⟩

theorem over : Rows.recsColumnsRow.holds Try.pinned (OpenSpec.ofChange Rows.recsColumnsSpec) :=
  OpenClaim.holds_of_wide 10 Try.f10 rfl rfl rfl rfl rfl rfl rfl ⟨rfl, rfl, rfl, rfl, rfl⟩ rfl rfl rfl rfl rfl (by kernel_rfl) Try.func10 (by kernel_rfl)
    (of_decide_eq_true (by kernel_rfl)) (by unfold Func.isWrapper; first | (rw [if_pos (by decide +kernel)]; kernel_rfl) | (rw [if_neg (by decide +kernel)]; exact ⟨rfl, rfl⟩))
    (fun os started H enc _ => lifted os started H enc)

theorem proved : Rows.RecsColumnsSaid := over
#print axioms proved
end Go.Proofs.Ytlbdhdocagahpaa.lawRecsColumns
