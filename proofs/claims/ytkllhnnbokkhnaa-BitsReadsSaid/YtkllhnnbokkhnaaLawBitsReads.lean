/-
  'BitsReads': whatever is read of any bytes, each call's answer, and what is left, are the document's. No condition.
-/
import Derived.Test.YtkllhnnbokkhnaaBitOps
import Derived.Test.YtkllhnnbokkhnaaBitRdr
import Derived.Test.YtkllhnnbokkhnaaBitRfr
import Derived.Test.YtkllhnnbokkhnaaRows
namespace Go.Proofs.Ytkllhnnbokkhnaa.lawBitsReads
open Go.ChangeShapes Go.WideShapes Go.ChangeAt Go.RowKit
open Go.ChangeMaps (open_string shut_string)
set_option linter.unusedVariables false
theorem swapped {P : Program} {B : Nat} {w0 : World} {f : FuncId} {args : List Value} {L L' : List Ch} {u : Value} (h : Does P B w0 f args L' (fun r K => r = u ∧ K = L')) (hp : L.Perm L') : Does P B w0 f args L (fun r K => r = u ∧ K = L) := fun w hw =>
  (h w (hw.perm hp)).mono fun e w' ⟨v, K, he, ⟨hr, hK⟩, hs⟩ => by
    subst hK
    exact ⟨v, L, he, ⟨hr, rfl⟩, hs.perm hp.symm⟩
theorem walk (w : World) (v0 : Value) (b : List UInt8) (hr0 : Rd w w.heap.size 1 v0 b.length (bv b)) (hm0 : b.length ≤ maxLen) (v : Value) (l : List BOp) (hr : Rd w w.heap.size 3 v l.length (bops l)) (ho : ∀ x ∈ l, BOp.ok x) (hm : l.length ≤ maxLen) :
    Calls Try.prog 6 #[v0, v] w fun e w' => e = .returned (.bool true) ∧ Below w.heap.size w w' := by
  obtain ⟨A1, c1, rfl, _⟩ := hr0.form
  obtain ⟨A0, c0, rfl, _⟩ := hr.form
  have hb0 : Bor w.heap.size w [] 1 (.slice A1 b.length c1) b.length (bv b) := Bor.in_ hr0
  have hbo : Bor w.heap.size w [] 3 (.slice A0 l.length c0) l.length (bops l) := Bor.in_ hr
  simp only [maxLen] at hm hm0
  refine Does.law (args := [.slice A1 b.length c1, .slice A0 l.length c0]) ?_
  obtain ⟨q, hq⟩ : ∃ q, q = unp b := ⟨_, rfl⟩
  have hql : q.length = 8 * b.length := by rw [hq, unp_length]
  refine fn_walk Try.func6 136 rfl rfl rfl [(0, .slice A1 b.length c1), (1, .slice A0 l.length c0)] ⟨⟨rfl, rfl⟩, ⟨rfl, rfl⟩, trivial⟩ ?_
  refine vc_seq ?_
  refine vc_region ?_
  refine vl_det (det_assign rfl) rfl ?_
  refine vl_end [(0, _), (1, _)] ⟨rfl, rfl, trivial⟩ ?_
  refine then_next ?_
  refine vc_seq ?_
  refine vc_seq ?_
  refine vc_region ?_
  refine vl_call co8 rfl (alive_d) rfl ?_
  rintro _ _ ⟨rfl, hLL⟩
  obtain rfl := hLL.symm
  refine vl_det (det_not_t rfl) rfl ?_
  refine vl_end [(0, _), (1, _), (15, _)] ⟨rfl, rfl, rfl, trivial⟩ ?_
  refine then_next ?_
  refine vc_cond_f rfl ?_
  refine vc_skip ?_
  refine then_next ?_
  refine vc_seq ?_
  refine vc_seq ?_
  refine vc_region ?_
  refine vl_cut 8 23 [(0, _), (1, _)] (400 < b.length ∨ 60 < l.length) ⟨rfl, rfl, trivial⟩ ?_ ?_
  · skip
    refine vl_det (det_move rfl) rfl ?_
    refine vl_det (det_len_sl Try.underlying24 rfl) rfl ?_
    refine vl_det (det_gtr rfl rfl) rfl ?_
    refine vl_det (det_move rfl) rfl ?_
    refine vl_guardn rfl rfl rfl (fun h19 => ?_) (fun h19 => ?_)
    · skip
      refine vl_det (det_move rfl) rfl ?_
      refine vl_guard_t rfl rfl ?_
      refine vl_det (det_len_sl Try.underlying22 rfl) rfl ?_
      refine vl_guard_t rfl rfl ?_
      refine vl_det (det_gtr rfl rfl) rfl ?_
      refine vl_det (det_pick_f rfl rfl) rfl ?_
      exact vl_cut_end ⟨rfl, rfl, trivial⟩ (by first | rfl | exact bool_to_t (by first | omega | (exact ⟨fun h => by omega, fun h => by omega⟩)) | exact bool_to_f (by first | omega | (exact ⟨fun h => by omega, fun h => by omega⟩)) | exact bool_to (by first | omega | (exact ⟨fun h => by omega, fun h => by omega⟩)) | exact bool_to_b (by first | omega | (exact ⟨fun h => by omega, fun h => by omega⟩)))
    · skip
      refine vl_guard_f rfl rfl rfl rfl ?_
      refine vl_guard_f rfl rfl rfl rfl ?_
      refine vl_det (det_pick_t rfl rfl) rfl ?_
      exact vl_cut_end ⟨rfl, rfl, trivial⟩ (by first | rfl | exact bool_to_t (by first | omega | (exact ⟨fun h => by omega, fun h => by omega⟩)) | exact bool_to_f (by first | omega | (exact ⟨fun h => by omega, fun h => by omega⟩)) | exact bool_to (by first | omega | (exact ⟨fun h => by omega, fun h => by omega⟩)) | exact bool_to_b (by first | omega | (exact ⟨fun h => by omega, fun h => by omega⟩)))
  · skip
    refine vl_end [(0, _), (1, _), (23, _)] ⟨rfl, rfl, rfl, trivial⟩ ?_
    refine then_next ?_
    refine vc_decideU rfl (fun h23 => ?_) (fun h23 => ?_)
    · skip
      refine vc_seq ?_
      refine vc_region ?_
      refine vl_det (det_assign rfl) rfl ?_
      refine vl_end [(4, _)] ⟨rfl, trivial⟩ ?_
      refine then_next ?_
      refine vc_ret ?_
      refine then_ret ?_
      refine ret1 rfl rfl ?_
      rfl
    · skip
      refine vc_skip ?_
      refine then_next ?_
      refine vc_seq ?_
      refine vc_region ?_
      refine vl_det (det_move rfl) rfl ?_
      refine vl_call co17 rfl (newr_d (by first | (exact Bor.own (by repeat (first | exact List.Mem.head _ | apply List.Mem.tail))) | (repeat (first | assumption | apply Bor.cons))) (by omega)) rfl ?_
      rintro _ _ ⟨g25, A25, c25, rfl, hLL⟩
      obtain rfl := hLL.symm
      refine vl_det (det_move rfl) rfl ?_
      refine vl_call co24 rfl (newf_d (by first | (exact Bor.own (by repeat (first | exact List.Mem.head _ | apply List.Mem.tail))) | (repeat (first | assumption | apply Bor.cons))) (by omega)) rfl ?_
      rintro _ _ ⟨g27, A27, c27, rfl, hLL⟩
      obtain rfl := hLL.symm
      refine vl_det (det_assign rfl) rfl ?_
      refine vl_det (det_assign rfl) rfl ?_
      refine vl_end [(1, _), (5, _), (6, _)] ⟨rfl, rfl, rfl, trivial⟩ ?_
      refine then_next ?_
      refine vc_seq ?_
      refine vc_seq ?_
      refine vc_region ?_
      refine vl_det (det_assign rfl) rfl ?_
      refine vl_end [(1, _), (5, _), (6, _), (7, _)] ⟨rfl, rfl, rfl, rfl, trivial⟩ ?_
      refine then_next ?_
      refine vc_block ?_
      refine vc_loopJ (fun zf zL zm => ∃ (k p : Nat) (A5 A6 : Option Addr) (c5 c6 : Nat), (k ≤ l.length ∧ p ≤ q.length) ∧ l.length - k = zm ∧ Sub zf [(1, .slice A0 l.length c0), (5, .pointer (some ⟨g25, 0, none⟩)), (6, .pointer (some ⟨g27, 0, none⟩)), (7, .int .i64 k)] ∧ Wk zL (Rr g25 A5 c5 q p (Rf g27 A6 c6 q p []))) _ ⟨0, 0, A25, A27, c25, c27, ⟨Nat.zero_le _, Nat.zero_le _⟩, rfl, ⟨(by first | rfl | exact int_to (by omega)), (by first | rfl | exact int_to (by omega)), (by first | rfl | exact int_to (by omega)), (by first | rfl | exact int_to (by omega)), trivial⟩, by subst hq; exact Wk.of_perm (swp22 _ _ _ _ _)⟩ ?_
      rintro _ _ _ ⟨k, p, A5, A6, c5, c6, ⟨hk, hpl⟩, rfl, hs, hp⟩
      refine vc_weaken _ hs (vc_wk hp ?_)
      clear hs hp
      refine vc_seq ?_
      refine vc_seq ?_
      refine vc_region ?_
      refine vl_det (det_move rfl) rfl ?_
      refine vl_det (det_move rfl) rfl ?_
      refine vl_det (det_len_sl Try.underlying22 rfl) rfl ?_
      refine vl_det (det_lss rfl rfl) rfl ?_
      refine vl_end [(1, _), (5, _), (6, _), (7, _), (31, _)] ⟨rfl, rfl, rfl, rfl, rfl, trivial⟩ ?_
      refine then_next ?_
      refine vc_decideU rfl (fun h31 => ?_) (fun h31 => ?_)
      · skip
        have hok := opAt_ok ho (k := k) (by omega)
        refine vc_skip ?_
        refine then_next ?_
        refine vc_seq ?_
        refine vc_block ?_
        refine vc_seq ?_
        refine vc_region ?_
        refine vl_det (det_assign rfl) rfl ?_
        refine vl_det (det_assign rfl) rfl ?_
        refine vl_end [(1, _), (5, _), (6, _), (7, _), (8, _), (9, _)] ⟨rfl, rfl, rfl, rfl, rfl, rfl, trivial⟩ ?_
        refine then_next ?_
        refine vc_seq ?_
        refine vc_region ?_
        refine vl_det (det_assign rfl) rfl ?_
        refine vl_det (det_assign rfl) rfl ?_
        refine vl_end [(1, _), (5, _), (6, _), (7, _), (8, _), (9, _), (10, _), (11, _)] ⟨rfl, rfl, rfl, rfl, rfl, rfl, rfl, rfl, trivial⟩ ?_
        refine then_next ?_
        refine vc_seq ?_
        refine vc_region ?_
        refine vl_det (det_assign rfl) rfl ?_
        refine vl_det (det_assign rfl) rfl ?_
        refine vl_end [(1, _), (5, _), (6, _), (7, _), (8, _), (9, _), (10, _), (11, _), (12, _), (13, _)] ⟨rfl, rfl, rfl, rfl, rfl, rfl, rfl, rfl, rfl, rfl, trivial⟩ ?_
        refine then_next ?_
        refine vc_seqJ (fun zf zL => ∃ (p' : Nat) (x : Nat) (y e : Int), (p' ≤ q.length) ∧ Sub zf [(1, .slice A0 l.length c0), (5, .pointer (some ⟨g25, 0, none⟩)), (6, .pointer (some ⟨g27, 0, none⟩)), (7, .int .i64 k), (8, .int .u64 x), (9, .int .u64 x), (10, .int .i64 y), (11, .int .i64 y), (12, .int .i64 e), (13, .int .i64 e)] ∧ Wk zL (Rr g25 A5 c5 q p' (Rf g27 A6 c6 q p' []))) ?_ ?_
        · skip
          refine vc_seq ?_
          refine vc_region ?_
          refine vl_det (det_move rfl) rfl ?_
          refine vl_det (det_move rfl) rfl ?_
          refine vl_det (det_indexAddr Try.underlying22 (by kernel_rfl) rfl rfl rfl (by omega) (by first | (exact Bor.own (by repeat (first | exact List.Mem.head _ | apply List.Mem.tail))) | (repeat (first | assumption | apply Bor.cons)))) rfl ?_
          refine vl_det (det_fieldAddr_row_ Try.underlying34 rfl (by kernel_rfl) rfl (by first | (exact Bor.own (by repeat (first | exact List.Mem.head _ | apply List.Mem.tail))) | (repeat (first | assumption | apply Bor.cons))) (by omega) rfl) rfl ?_
          refine vl_det (det_load_rowf (by kernel_rfl) rfl (by first | (exact Bor.own (by repeat (first | exact List.Mem.head _ | apply List.Mem.tail))) | (repeat (first | assumption | apply Bor.cons))) (by omega) ((bop_get (by omega) (by decide)).trans rfl)) rfl ?_
          refine vl_det (det_rem rfl rfl (by omega) (tmod5 _)) rfl ?_
          refine vl_end [(1, _), (5, _), (6, _), (7, _), (8, _), (9, _), (10, _), (11, _), (12, _), (13, _), (39, _)] ⟨rfl, rfl, rfl, rfl, rfl, rfl, rfl, rfl, rfl, rfl, rfl, trivial⟩ ?_
          refine then_next ?_
          refine vc_block ?_
          refine vc_seq ?_
          refine vc_region ?_
          refine vl_det (det_eql rfl rfl) rfl ?_
          refine vl_det (det_assign rfl) rfl ?_
          refine vl_end [(1, _), (5, _), (6, _), (7, _), (8, _), (9, _), (10, _), (11, _), (12, _), (13, _), (39, _), (44, _)] ⟨rfl, rfl, rfl, rfl, rfl, rfl, rfl, rfl, rfl, rfl, rfl, rfl, trivial⟩ ?_
          refine then_next ?_
          refine vc_decideU rfl (fun h44 => ?_) (fun h44 => ?_)
          · skip
            refine vc_seq ?_
            refine vc_region ?_
            refine vl_det (det_move rfl) rfl ?_
            refine vl_det (det_move rfl) rfl ?_
            refine vl_det (det_move rfl) rfl ?_
            refine vl_det (det_indexAddr Try.underlying22 (by kernel_rfl) rfl rfl rfl (by omega) (by first | (exact Bor.own (by repeat (first | exact List.Mem.head _ | apply List.Mem.tail))) | (repeat (first | assumption | apply Bor.cons)))) rfl ?_
            refine vl_det (det_fieldAddr_row_ Try.underlying34 rfl (by kernel_rfl) rfl (by first | (exact Bor.own (by repeat (first | exact List.Mem.head _ | apply List.Mem.tail))) | (repeat (first | assumption | apply Bor.cons))) (by omega) rfl) rfl ?_
            refine vl_det (det_load_rowf (by kernel_rfl) rfl (by first | (exact Bor.own (by repeat (first | exact List.Mem.head _ | apply List.Mem.tail))) | (repeat (first | assumption | apply Bor.cons))) (by omega) ((bop_get (by omega) (by decide)).trans rfl)) rfl ?_
            refine vl_call co20 rfl (get_d q p hpl (by omega) (opAt l k).2.2 hok.2.2.1 hok.2.2.2) rfl ?_
            rintro _ _ ⟨rfl, hLL⟩
            obtain rfl := hLL.symm
            refine vl_det (det_move rfl) rfl ?_
            refine vl_det (det_extract rfl rfl) rfl ?_
            refine vl_det (det_extract rfl rfl) rfl ?_
            refine vl_det (det_assign rfl) rfl ?_
            refine vl_det (det_assign rfl) rfl ?_
            refine vl_end [(1, _), (5, _), (6, _), (7, _), (8, _), (10, _), (11, _), (12, _)] ⟨rfl, rfl, rfl, rfl, rfl, rfl, rfl, rfl, trivial⟩ ?_
            refine then_next ?_
            refine vc_region ?_
            refine vl_det (det_move rfl) rfl ?_
            refine vl_det (det_move rfl) rfl ?_
            refine vl_det (det_move rfl) rfl ?_
            refine vl_det (det_indexAddr Try.underlying22 (by kernel_rfl) rfl rfl rfl (by omega) (by first | (exact Bor.own (by repeat (first | exact List.Mem.head _ | apply List.Mem.tail))) | (repeat (first | assumption | apply Bor.cons)))) rfl ?_
            refine vl_det (det_fieldAddr_row_ Try.underlying34 rfl (by kernel_rfl) rfl (by first | (exact Bor.own (by repeat (first | exact List.Mem.head _ | apply List.Mem.tail))) | (repeat (first | assumption | apply Bor.cons))) (by omega) rfl) rfl ?_
            refine vl_det (det_load_rowf (by kernel_rfl) rfl (by first | (exact Bor.own (by repeat (first | exact List.Mem.head _ | apply List.Mem.tail))) | (repeat (first | assumption | apply Bor.cons))) (by omega) ((bop_get (by omega) (by decide)).trans rfl)) rfl ?_
            refine vl_call co25 rfl ((rget_d q p hpl (by omega) (opAt l k).2.2 hok.2.2.1 hok.2.2.2).perm (swp22 _ _ _ _ _)) rfl ?_
            rintro _ _ ⟨rfl, hLL⟩
            obtain rfl := hLL.symm
            refine vl_det (det_move rfl) rfl ?_
            refine vl_det (det_extract rfl rfl) rfl ?_
            refine vl_det (det_extract rfl rfl) rfl ?_
            refine vl_det (det_assign rfl) rfl ?_
            refine vl_det (det_assign rfl) rfl ?_
            refine vl_end [(1, _), (5, _), (6, _), (7, _), (8, _), (9, _), (10, _), (11, _), (12, _), (13, _)] ⟨rfl, rfl, rfl, rfl, rfl, rfl, rfl, rfl, rfl, rfl, trivial⟩ ?_
            refine in_normal ?_
            exact in_join ⟨gtP q p (opAt l k).2.2, gtV q p (opAt l k).2.2, 0, gtE q p (opAt l k).2.2, gtP_le _ hpl, ⟨(by first | rfl | exact int_to (by omega)), (by first | rfl | exact int_to (by omega)), (by first | rfl | exact int_to (by omega)), (by first | rfl | exact int_to (by omega)), (by first | rfl | exact int_to (by omega)), (by first | rfl | exact int_to (by omega)), (by first | rfl | exact int_to (by omega)), (by first | rfl | exact int_to (by omega)), (by first | rfl | exact int_to (by omega)), (by first | rfl | exact int_to (by omega)), trivial⟩, Wk.of_perm (swp22 _ _ _ _ _)⟩
          · skip
            refine vc_seq ?_
            refine vc_region ?_
            refine vl_det (det_eql rfl rfl) rfl ?_
            refine vl_det (det_assign rfl) rfl ?_
            refine vl_end [(1, _), (5, _), (6, _), (7, _), (8, _), (9, _), (10, _), (11, _), (12, _), (13, _), (39, _), (66, _)] ⟨rfl, rfl, rfl, rfl, rfl, rfl, rfl, rfl, rfl, rfl, rfl, rfl, trivial⟩ ?_
            refine then_next ?_
            refine vc_decideU rfl (fun h66 => ?_) (fun h66 => ?_)
            · skip
              refine vc_seq ?_
              refine vc_region ?_
              refine vl_det (det_move rfl) rfl ?_
              refine vl_call co22 rfl (unaryr_d q p hpl (by omega)) rfl ?_
              rintro _ _ ⟨rfl, hLL⟩
              obtain rfl := hLL.symm
              refine vl_det (det_move rfl) rfl ?_
              refine vl_det (det_extract rfl rfl) rfl ?_
              refine vl_det (det_extract rfl rfl) rfl ?_
              refine vl_det (det_assign rfl) rfl ?_
              refine vl_det (det_assign rfl) rfl ?_
              refine vl_end [(1, _), (5, _), (6, _), (7, _), (8, _), (9, _), (10, _), (12, _)] ⟨rfl, rfl, rfl, rfl, rfl, rfl, rfl, rfl, trivial⟩ ?_
              refine then_next ?_
              refine vc_region ?_
              refine vl_det (det_move rfl) rfl ?_
              refine vl_call co26 rfl ((runaryr_d q p hpl (by omega)).perm (swp22 _ _ _ _ _)) rfl ?_
              rintro _ _ ⟨rfl, hLL⟩
              obtain rfl := hLL.symm
              refine vl_det (det_move rfl) rfl ?_
              refine vl_det (det_extract rfl rfl) rfl ?_
              refine vl_det (det_extract rfl rfl) rfl ?_
              refine vl_det (det_assign rfl) rfl ?_
              refine vl_det (det_assign rfl) rfl ?_
              refine vl_end [(1, _), (5, _), (6, _), (7, _), (8, _), (9, _), (10, _), (11, _), (12, _), (13, _)] ⟨rfl, rfl, rfl, rfl, rfl, rfl, rfl, rfl, rfl, rfl, trivial⟩ ?_
              refine in_normal ?_
              exact in_join ⟨unP q p, 0, unV q p, unR q p, unP_le hpl, ⟨(by first | rfl | exact int_to (by omega)), (by first | rfl | exact int_to (by omega)), (by first | rfl | exact int_to (by omega)), (by first | rfl | exact int_to (by omega)), (by first | rfl | exact int_to (by omega)), (by first | rfl | exact int_to (by omega)), (by first | rfl | exact int_to (by omega)), (by first | rfl | exact int_to (by omega)), (by first | rfl | exact int_to (by omega)), (by first | rfl | exact int_to (by omega)), trivial⟩, Wk.of_perm (swp22 _ _ _ _ _)⟩
            · skip
              refine vc_seq ?_
              refine vc_region ?_
              refine vl_det (det_eql rfl rfl) rfl ?_
              refine vl_det (det_assign rfl) rfl ?_
              refine vl_end [(1, _), (5, _), (6, _), (7, _), (8, _), (9, _), (10, _), (11, _), (12, _), (13, _), (39, _), (78, _)] ⟨rfl, rfl, rfl, rfl, rfl, rfl, rfl, rfl, rfl, rfl, rfl, rfl, trivial⟩ ?_
              refine then_next ?_
              refine vc_decideU rfl (fun h78 => ?_) (fun h78 => ?_)
              · skip
                refine vc_seq ?_
                refine vc_region ?_
                refine vl_det (det_move rfl) rfl ?_
                refine vl_det (det_move rfl) rfl ?_
                refine vl_det (det_move rfl) rfl ?_
                refine vl_det (det_indexAddr Try.underlying22 (by kernel_rfl) rfl rfl rfl (by omega) (by first | (exact Bor.own (by repeat (first | exact List.Mem.head _ | apply List.Mem.tail))) | (repeat (first | assumption | apply Bor.cons)))) rfl ?_
                refine vl_det (det_fieldAddr_row_ Try.underlying34 rfl (by kernel_rfl) rfl (by first | (exact Bor.own (by repeat (first | exact List.Mem.head _ | apply List.Mem.tail))) | (repeat (first | assumption | apply Bor.cons))) (by omega) rfl) rfl ?_
                refine vl_det (det_load_rowf (by kernel_rfl) rfl (by first | (exact Bor.own (by repeat (first | exact List.Mem.head _ | apply List.Mem.tail))) | (repeat (first | assumption | apply Bor.cons))) (by omega) ((bop_get (by omega) (by decide)).trans rfl)) rfl ?_
                refine vl_call co18 rfl (skip_d q p hpl (by omega) (opAt l k).2.2 hok.2.2.1 hok.2.2.2) rfl ?_
                rintro _ _ ⟨rfl, hLL⟩
                obtain rfl := hLL.symm
                refine vl_det (det_assign rfl) rfl ?_
                refine vl_end [(1, _), (5, _), (6, _), (7, _), (8, _), (9, _), (10, _), (11, _), (12, _)] ⟨rfl, rfl, rfl, rfl, rfl, rfl, rfl, rfl, rfl, trivial⟩ ?_
                refine then_next ?_
                refine vc_region ?_
                refine vl_det (det_move rfl) rfl ?_
                refine vl_det (det_move rfl) rfl ?_
                refine vl_det (det_move rfl) rfl ?_
                refine vl_det (det_indexAddr Try.underlying22 (by kernel_rfl) rfl rfl rfl (by omega) (by first | (exact Bor.own (by repeat (first | exact List.Mem.head _ | apply List.Mem.tail))) | (repeat (first | assumption | apply Bor.cons)))) rfl ?_
                refine vl_det (det_fieldAddr_row_ Try.underlying34 rfl (by kernel_rfl) rfl (by first | (exact Bor.own (by repeat (first | exact List.Mem.head _ | apply List.Mem.tail))) | (repeat (first | assumption | apply Bor.cons))) (by omega) rfl) rfl ?_
                refine vl_det (det_load_rowf (by kernel_rfl) rfl (by first | (exact Bor.own (by repeat (first | exact List.Mem.head _ | apply List.Mem.tail))) | (repeat (first | assumption | apply Bor.cons))) (by omega) ((bop_get (by omega) (by decide)).trans rfl)) rfl ?_
                refine vl_call co27 rfl ((rskip_d q p hpl (by omega) (opAt l k).2.2 hok.2.2.1 hok.2.2.2).perm (swp22 _ _ _ _ _)) rfl ?_
                rintro _ _ ⟨rfl, hLL⟩
                obtain rfl := hLL.symm
                refine vl_det (det_assign rfl) rfl ?_
                refine vl_end [(1, _), (5, _), (6, _), (7, _), (8, _), (9, _), (10, _), (11, _), (12, _), (13, _)] ⟨rfl, rfl, rfl, rfl, rfl, rfl, rfl, rfl, rfl, rfl, trivial⟩ ?_
                refine in_normal ?_
                exact in_join ⟨skP q p (opAt l k).2.2, 0, 0, skE q p (opAt l k).2.2, skP_le _ hpl, ⟨(by first | rfl | exact int_to (by omega)), (by first | rfl | exact int_to (by omega)), (by first | rfl | exact int_to (by omega)), (by first | rfl | exact int_to (by omega)), (by first | rfl | exact int_to (by omega)), (by first | rfl | exact int_to (by omega)), (by first | rfl | exact int_to (by omega)), (by first | rfl | exact int_to (by omega)), (by first | rfl | exact int_to (by omega)), (by first | rfl | exact int_to (by omega)), trivial⟩, Wk.of_perm (swp22 _ _ _ _ _)⟩
              · skip
                refine vc_seq ?_
                refine vc_region ?_
                refine vl_det (det_eql rfl rfl) rfl ?_
                refine vl_det (det_assign rfl) rfl ?_
                refine vl_end [(1, _), (5, _), (6, _), (7, _), (8, _), (9, _), (10, _), (11, _), (12, _), (13, _), (94, _)] ⟨rfl, rfl, rfl, rfl, rfl, rfl, rfl, rfl, rfl, rfl, rfl, trivial⟩ ?_
                refine then_next ?_
                refine vc_decideU rfl (fun h94 => ?_) (fun h94 => ?_)
                · skip
                  refine vc_seq ?_
                  refine vc_region ?_
                  refine vl_det (det_move rfl) rfl ?_
                  refine vl_det (det_move rfl) rfl ?_
                  refine vl_det (det_move rfl) rfl ?_
                  refine vl_det (det_indexAddr Try.underlying22 (by kernel_rfl) rfl rfl rfl (by omega) (by first | (exact Bor.own (by repeat (first | exact List.Mem.head _ | apply List.Mem.tail))) | (repeat (first | assumption | apply Bor.cons)))) rfl ?_
                  refine vl_det (det_fieldAddr_row_ Try.underlying34 rfl (by kernel_rfl) rfl (by first | (exact Bor.own (by repeat (first | exact List.Mem.head _ | apply List.Mem.tail))) | (repeat (first | assumption | apply Bor.cons))) (by omega) rfl) rfl ?_
                  refine vl_det (det_load_rowf (by kernel_rfl) rfl (by first | (exact Bor.own (by repeat (first | exact List.Mem.head _ | apply List.Mem.tail))) | (repeat (first | assumption | apply Bor.cons))) (by omega) ((bop_get (by omega) (by decide)).trans rfl)) rfl ?_
                  refine vl_call co19 rfl (peek_d q p hpl (by omega) (opAt l k).2.2 hok.2.2.1 hok.2.2.2) rfl ?_
                  rintro _ _ ⟨rfl, hLL⟩
                  obtain rfl := hLL.symm
                  refine vl_det (det_move rfl) rfl ?_
                  refine vl_det (det_extract rfl rfl) rfl ?_
                  refine vl_det (det_extract rfl rfl) rfl ?_
                  refine vl_det (det_assign rfl) rfl ?_
                  refine vl_det (det_assign rfl) rfl ?_
                  refine vl_end [(1, _), (5, _), (6, _), (7, _), (8, _), (10, _), (12, _), (13, _)] ⟨rfl, rfl, rfl, rfl, rfl, rfl, rfl, rfl, trivial⟩ ?_
                  refine then_next ?_
                  refine vc_region ?_
                  refine vl_det (det_move rfl) rfl ?_
                  refine vl_det (det_move rfl) rfl ?_
                  refine vl_det (det_move rfl) rfl ?_
                  refine vl_det (det_indexAddr Try.underlying22 (by kernel_rfl) rfl rfl rfl (by omega) (by first | (exact Bor.own (by repeat (first | exact List.Mem.head _ | apply List.Mem.tail))) | (repeat (first | assumption | apply Bor.cons)))) rfl ?_
                  refine vl_det (det_fieldAddr_row_ Try.underlying34 rfl (by kernel_rfl) rfl (by first | (exact Bor.own (by repeat (first | exact List.Mem.head _ | apply List.Mem.tail))) | (repeat (first | assumption | apply Bor.cons))) (by omega) rfl) rfl ?_
                  refine vl_det (det_load_rowf (by kernel_rfl) rfl (by first | (exact Bor.own (by repeat (first | exact List.Mem.head _ | apply List.Mem.tail))) | (repeat (first | assumption | apply Bor.cons))) (by omega) ((bop_get (by omega) (by decide)).trans rfl)) rfl ?_
                  refine vl_call co28 rfl ((rpeek_d q p hpl (by omega) (opAt l k).2.2 hok.2.2.1 hok.2.2.2).perm (swp22 _ _ _ _ _)) rfl ?_
                  rintro _ _ ⟨rfl, hLL⟩
                  obtain rfl := hLL.symm
                  refine vl_det (det_move rfl) rfl ?_
                  refine vl_det (det_extract rfl rfl) rfl ?_
                  refine vl_det (det_extract rfl rfl) rfl ?_
                  refine vl_det (det_assign rfl) rfl ?_
                  refine vl_det (det_assign rfl) rfl ?_
                  refine vl_end [(1, _), (5, _), (6, _), (7, _), (8, _), (9, _), (10, _), (11, _), (12, _), (13, _)] ⟨rfl, rfl, rfl, rfl, rfl, rfl, rfl, rfl, rfl, rfl, trivial⟩ ?_
                  refine in_normal ?_
                  exact in_join ⟨p, pkV q p (opAt l k).2.2, pkN q p (opAt l k).2.2, 0, hpl, ⟨(by first | rfl | exact int_to (by omega)), (by first | rfl | exact int_to (by omega)), (by first | rfl | exact int_to (by omega)), (by first | rfl | exact int_to (by omega)), (by first | rfl | exact int_to (by omega)), (by first | rfl | exact int_to (by omega)), (by first | rfl | exact int_to (by omega)), (by first | rfl | exact int_to (by omega)), (by first | rfl | exact int_to (by omega)), (by first | rfl | exact int_to (by omega)), trivial⟩, Wk.of_perm (swp22 _ _ _ _ _)⟩
                · skip
                  refine vc_seq ?_
                  refine vc_region ?_
                  refine vl_det (det_move rfl) rfl ?_
                  refine vl_call co23 rfl (pad_d q p hpl (by omega)) rfl ?_
                  rintro _ _ ⟨rfl, hLL⟩
                  obtain rfl := hLL.symm
                  refine vl_det (det_assign rfl) rfl ?_
                  refine vl_end [(1, _), (5, _), (6, _), (7, _), (8, _), (9, _), (10, _), (11, _), (12, _)] ⟨rfl, rfl, rfl, rfl, rfl, rfl, rfl, rfl, rfl, trivial⟩ ?_
                  refine then_next ?_
                  refine vc_region ?_
                  refine vl_det (det_move rfl) rfl ?_
                  refine vl_call co29 rfl ((rpad_d q p hpl (by omega)).perm (swp22 _ _ _ _ _)) rfl ?_
                  rintro _ _ ⟨rfl, hLL⟩
                  obtain rfl := hLL.symm
                  refine vl_det (det_assign rfl) rfl ?_
                  refine vl_end [(1, _), (5, _), (6, _), (7, _), (8, _), (9, _), (10, _), (11, _), (12, _), (13, _)] ⟨rfl, rfl, rfl, rfl, rfl, rfl, rfl, rfl, rfl, rfl, trivial⟩ ?_
                  refine in_normal ?_
                  exact in_join ⟨p, 0, 0, paE q p, hpl, ⟨(by first | rfl | exact int_to (by omega)), (by first | rfl | exact int_to (by omega)), (by first | rfl | exact int_to (by omega)), (by first | rfl | exact int_to (by omega)), (by first | rfl | exact int_to (by omega)), (by first | rfl | exact int_to (by omega)), (by first | rfl | exact int_to (by omega)), (by first | rfl | exact int_to (by omega)), (by first | rfl | exact int_to (by omega)), (by first | rfl | exact int_to (by omega)), trivial⟩, Wk.of_perm (swp22 _ _ _ _ _)⟩
        · rintro _ _ ⟨p', x, y, e, hpl', hs, hp⟩
          refine vc_weaken _ hs (vc_wk hp ?_)
          clear hs hp
          refine vc_seq ?_
          refine vc_region ?_
          refine vl_cut 20 135 [(1, _), (5, _), (6, _), (7, _)] (False) ⟨rfl, rfl, rfl, rfl, trivial⟩ ?_ ?_
          · skip
            refine vl_det (det_move rfl) rfl ?_
            refine vl_det (det_move rfl) rfl ?_
            refine vl_det (det_neq rfl rfl) rfl ?_
            refine vl_det (det_move rfl) rfl ?_
            refine vl_guardn rfl rfl rfl (fun h119 => ?_) (fun h119 => ?_)
            · skip
              refine vl_det (det_move rfl) rfl ?_
              refine vl_guard_t rfl rfl ?_
              refine vl_det (det_move rfl) rfl ?_
              refine vl_guard_t rfl rfl ?_
              refine vl_det (det_neq rfl rfl) rfl ?_
              refine vl_det (det_pick_f rfl rfl) rfl ?_
              refine vl_det (det_move rfl) rfl ?_
              refine vl_guardn rfl rfl rfl (fun h124 => ?_) (fun h124 => ?_)
              · skip
                refine vl_det (det_move rfl) rfl ?_
                refine vl_guard_t rfl rfl ?_
                refine vl_det (det_move rfl) rfl ?_
                refine vl_guard_t rfl rfl ?_
                refine vl_det (det_neq rfl rfl) rfl ?_
                refine vl_det (det_pick_f rfl rfl) rfl ?_
                refine vl_det (det_move rfl) rfl ?_
                refine vl_guardn rfl rfl rfl (fun h129 => ?_) (fun h129 => ?_)
                · skip
                  refine vl_det (det_move rfl) rfl ?_
                  refine vl_guard_t rfl rfl ?_
                  refine vl_call co21 rfl (left_d q p' hpl' (by omega)) rfl ?_
                  rintro _ _ ⟨rfl, hLL⟩
                  obtain rfl := hLL.symm
                  refine vl_guard_t rfl rfl ?_
                  refine vl_det (det_move rfl) rfl ?_
                  refine vl_guard_t rfl rfl ?_
                  refine vl_call co30 rfl (swapped (rleft_d q p' hpl' (by omega)) (swp22 _ _ _ _ _)) rfl ?_
                  rintro _ _ ⟨rfl, hLL⟩
                  obtain rfl := hLL.symm
                  refine vl_guard_t rfl rfl ?_
                  refine vl_det (det_neq rfl rfl) rfl ?_
                  refine vl_det (det_pick_f rfl rfl) rfl ?_
                  exact vl_cut_end ⟨rfl, rfl, rfl, rfl, trivial⟩ (by first | rfl | exact bool_to_t (by first | omega | (simp; done) | simp_all) | exact bool_to_f (by first | omega | (simp; done) | simp_all) | exact bool_to (by first | omega | (simp; done) | simp_all) | exact bool_to_b (by first | omega | (simp; done) | simp_all))
                · skip
                  refine vl_guard_f rfl rfl rfl rfl ?_
                  refine vl_guard_f rfl rfl rfl rfl ?_
                  refine vl_guard_f rfl rfl rfl rfl ?_
                  refine vl_guard_f rfl rfl rfl rfl ?_
                  refine vl_det (det_pick_t rfl rfl) rfl ?_
                  exact vl_cut_end ⟨rfl, rfl, rfl, rfl, trivial⟩ (by first | rfl | exact bool_to_t (by first | omega | (simp; done) | simp_all) | exact bool_to_f (by first | omega | (simp; done) | simp_all) | exact bool_to (by first | omega | (simp; done) | simp_all) | exact bool_to_b (by first | omega | (simp; done) | simp_all))
              · skip
                refine vl_guard_f rfl rfl rfl rfl ?_
                refine vl_guard_f rfl rfl rfl rfl ?_
                refine vl_det (det_pick_t rfl rfl) rfl ?_
                refine vl_det (det_move rfl) rfl ?_
                refine vl_guard_f rfl rfl rfl rfl ?_
                refine vl_guard_f rfl rfl rfl rfl ?_
                refine vl_guard_f rfl rfl rfl rfl ?_
                refine vl_guard_f rfl rfl rfl rfl ?_
                refine vl_guard_f rfl rfl rfl rfl ?_
                refine vl_det (det_pick_t rfl rfl) rfl ?_
                exact vl_cut_end ⟨rfl, rfl, rfl, rfl, trivial⟩ (by first | rfl | exact bool_to_t (by first | omega | (simp; done) | simp_all) | exact bool_to_f (by first | omega | (simp; done) | simp_all) | exact bool_to (by first | omega | (simp; done) | simp_all) | exact bool_to_b (by first | omega | (simp; done) | simp_all))
            · skip
              refine vl_guard_f rfl rfl rfl rfl ?_
              refine vl_guard_f rfl rfl rfl rfl ?_
              refine vl_det (det_pick_t rfl rfl) rfl ?_
              refine vl_det (det_move rfl) rfl ?_
              refine vl_guard_f rfl rfl rfl rfl ?_
              refine vl_guard_f rfl rfl rfl rfl ?_
              refine vl_guard_f rfl rfl rfl rfl ?_
              refine vl_det (det_pick_t rfl rfl) rfl ?_
              refine vl_det (det_move rfl) rfl ?_
              refine vl_guard_f rfl rfl rfl rfl ?_
              refine vl_guard_f rfl rfl rfl rfl ?_
              refine vl_guard_f rfl rfl rfl rfl ?_
              refine vl_guard_f rfl rfl rfl rfl ?_
              refine vl_guard_f rfl rfl rfl rfl ?_
              refine vl_det (det_pick_t rfl rfl) rfl ?_
              exact vl_cut_end ⟨rfl, rfl, rfl, rfl, trivial⟩ (by first | rfl | exact bool_to_t (by first | omega | (simp; done) | simp_all) | exact bool_to_f (by first | omega | (simp; done) | simp_all) | exact bool_to (by first | omega | (simp; done) | simp_all) | exact bool_to_b (by first | omega | (simp; done) | simp_all))
          · skip
            refine vl_end [(1, _), (5, _), (6, _), (7, _), (135, _)] ⟨rfl, rfl, rfl, rfl, rfl, trivial⟩ ?_
            refine then_next ?_
            refine vc_decideU rfl (fun h135 => ?_) (fun h135 => ?_)
            · skip
              exfalso; omega
            · skip
              refine vc_skip ?_
              refine in_normal ?_
              refine then_next ?_
              refine vc_region ?_
              refine vl_det (det_move rfl) rfl ?_
              refine vl_det (det_add rfl rfl (w_i64 (by omega) (by omega))) rfl ?_
              refine vl_det (det_assign rfl) rfl ?_
              refine vl_end [(1, _), (5, _), (6, _), (7, _)] ⟨rfl, rfl, rfl, rfl, trivial⟩ ?_
              refine in_loop_ ⟨_, by omega, k + 1, p', A5, A6, c5, c6, ⟨by omega, hpl'⟩, rfl, ⟨(by first | rfl | exact int_to (by omega)), (by first | rfl | exact int_to (by omega)), (by first | rfl | exact int_to (by omega)), (by first | rfl | exact int_to (by omega)), trivial⟩, .refl _⟩
      · skip
        refine vc_exit ?_
        refine then_exit ?_
        refine loop_exit ?_
        refine in_eq ?_
        refine then_next ?_
        refine vc_seq ?_
        refine vc_region ?_
        refine vl_det (det_assign rfl) rfl ?_
        refine vl_end [(4, _)] ⟨rfl, trivial⟩ ?_
        refine then_next ?_
        refine vc_ret ?_
        refine ret1 rfl rfl ?_
        rfl
theorem own : ownKnob Try.prog.godebug = none := by kernel_rfl
theorem laidOut : laidOutB Try.prog = true := by kernel_rfl
set_option maxRecDepth 100000 in
theorem lifted (os : Os) (started : os.Started) (H : Type) (enc : TypeId × Value → H) :
    ReturnsInHanded {} Try.checked os 6 .any (Rows.bitsReadsSpec.pre6 enc Try.prog Try.f6 Rows.bitsReadsRow.domain false) (Rows.bitsReadsSpec.post enc Try.prog Try.f6 false true false false) := by
  refine returnsInHanded_of_change (C := Try.checked) own started (by kernel_rfl) Try.func6
    (ChangeSpec.witness6 (enc := enc) (C := Try.checked) false ⟨#[], #[.slice none 0 0, .slice none 0 0], []⟩ 8 (by kernel_rfl) (by kernel_rfl) (by kernel_rfl) (by kernel_rfl)) ?_
  intro W base args ds gs before hval0 hW hcnd _
  have hval : ∀ (j : Nat) t v, Try.f6.params[j]? = some t → args[j]? = some v → Value.okWide Try.prog W .any base t v := hval0
  have hW' := hW
  obtain ⟨p, q, hA0, hV, rfl, hfz, hnd⟩ := hW
  have hA : DataW.TrodAll enc Try.prog W 0 (fun _ => true) true Try.f6.params.toList args.toList ds p := hA0
  rw [Try.params6] at hA hval
  obtain ⟨v0', vs0, d0, ds0, p0, q0, hargs, rfl, rfl, h0', r0⟩ := trodAll_cons hA
  obtain ⟨v1', vs1, d1, ds1, p1, q1, rfl, rfl, rfl, h1', r1⟩ := trodAll_cons r0
  obtain ⟨rfl, rfl, rfl⟩ := trodAll_nil r1
  obtain rfl : args = #[v0', v1'] := by cases args; simp_all
  obtain ⟨rfl, rfl⟩ := trodVars_none hV
  have k0 := h0'
  have lt0 : ∀ x ∈ p0, x.block < W.heap.size := by obtain ⟨m, hm⟩ := k0; exact DataW.trod_lt m _ _ _ hm
  obtain ⟨A0, n0, c0, rfl⟩ := okWide_slice Try.underlying24 (hval 0 24 v0' rfl rfl)
  obtain ⟨⟨u0, L0⟩, e0, hr0, ho0, hm0⟩ := DecT.arg (dec_slice Try.underlying24 (by kernel_rfl : Try.prog.cellsOf 5 = 1) (by omega) (fun _ => rfl) (dec_u8 (w := W) Try.underlying5)) k0
  obtain rfl := cells_slice A0 n0 c0 rfl e0
  rw [flatMap_bv] at hr0
  have k1 := h1'
  have lt1 : ∀ x ∈ p1, x.block < W.heap.size := by obtain ⟨m, hm⟩ := k1; exact DataW.trod_lt m _ _ _ hm
  obtain ⟨A1, n1, c1, rfl⟩ := okWide_slice Try.underlying22 (hval 1 22 v1' rfl rfl)
  obtain ⟨⟨u1, L1⟩, e1, hr1, ho1, hm1⟩ := DecT.arg (dec_slice Try.underlying22 (by kernel_rfl : Try.prog.cellsOf 34 = 3) (by omega) (fun _ => rfl) (dec_bop W)) k1
  obtain rfl := cells_slice A1 n1 c1 rfl e1
  clear hA0 hval0
  refine (walk W _ L0 hr0 hm0 _ L1 hr1 ho1 hm1).mono fun e W' ⟨he, bel⟩ => ?_
  subst he
  exact ⟨_, rfl, _, _, _, [], _, [], hW', trodAll_mk1 (shut_bool Try.underlying4 _), (trodAll_cons_mk (Below.trod laidOut (by kernel_rfl) (of_decide_eq_true (by kernel_rfl)) k0 bel lt0) (trodAll_cons_mk (Below.trod laidOut (by kernel_rfl) (of_decide_eq_true (by kernel_rfl)) k1 bel lt1) trodAll_mk0)), rfl, bel.frame _, fun h => by cases h⟩

theorem over : Rows.bitsReadsRow.holds Try.pinned (OpenSpec.ofChange Rows.bitsReadsSpec) :=
  OpenClaim.holds_of_wide 6 Try.f6 rfl rfl rfl rfl rfl rfl rfl ⟨rfl, rfl, rfl, rfl, rfl⟩ rfl rfl rfl rfl rfl (by kernel_rfl) Try.func6 (by kernel_rfl)
    (of_decide_eq_true (by kernel_rfl)) (by unfold Func.isWrapper; first | (rw [if_pos (by decide +kernel)]; kernel_rfl) | (rw [if_neg (by decide +kernel)]; exact ⟨rfl, rfl⟩))
    (fun os started H enc _ => lifted os started H enc)

theorem proved : Rows.BitsReadsSaid := over
#print axioms proved
end Go.Proofs.Ytkllhnnbokkhnaa.lawBitsReads
