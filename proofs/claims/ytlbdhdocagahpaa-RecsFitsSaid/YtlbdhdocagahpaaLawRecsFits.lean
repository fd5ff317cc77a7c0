/-
  'RecsFits': all groups together have all records, each at least one; one of several has no more bytes than the size; with the next group's first record it would have. No condition.
-/
import Derived.Test.YtlbdhdocagahpaaRecG
import Derived.Test.YtlbdhdocagahpaaRows
import Derived.Test.YtlbdhdocagahpaaOpen
namespace Go.Proofs.Ytlbdhdocagahpaa.lawRecsFits
open Go.ChangeShapes Go.WideShapes Go.ChangeAt Go.RowKit
open Go.ChangeMaps (open_string shut_string)
set_option linter.unusedVariables false
set_option maxRecDepth 20000
theorem tm300 (x : Nat) : (x : Int).tmod 300 = ((x % 300 : Nat) : Int) := (Int.ofNat_tmod x 300).symm
theorem walk (w : World) (z : Nat) (hz : z < 65536) (b : Bool) (v : Value) (l : List RecC) (hr : Rd w w.heap.size 4 v l.length (l.flatMap RecC.cells)) (ho : ∀ x ∈ l, RecC.ok x) (hm : l.length ≤ maxLen) :
    Calls Try.prog 6 #[.int .u16 z, .bool b, v] w fun e w' => e = .returned (.bool true) ∧ Below w.heap.size w w' := by
  obtain ⟨A0, c0, rfl, hc0⟩ := hr.form
  have hbo : Bor w.heap.size w [] 4 (.slice A0 l.length c0) l.length (recs l) := Bor.in_ hr
  have hx : ∀ x ∈ l, x.1 < 18446744073709551616 := fun x h => (ho x h).1
  simp only [maxLen] at hm
  obtain ⟨S, hSz⟩ : ∃ S, S = 1 + z % 300 := ⟨_, rfl⟩
  have hS : (S : Int) = max 1 ((S : Nat) : Int) := by omega
  have hll := lens_length b l
  have hfit0 := fit_groups S (lens b l)
  have hgle := groups_le S (lens b l)
  rw [hll] at hgle
  refine Does.law (args := [.int .u16 z, .bool b, .slice A0 l.length c0]) ?_
  refine fn_walk Try.func6 96 rfl rfl rfl [(0, .int .u16 z), (1, .bool b), (2, .slice A0 l.length c0)] ⟨⟨rfl, rfl⟩, ⟨rfl, rfl⟩, ⟨rfl, rfl⟩, trivial⟩ ?_
  refine vc_seq ?_
  refine vc_region ?_
  refine vl_det (det_assign rfl) rfl ?_
  refine vl_end [(0, _), (1, _), (2, _)] ⟨rfl, rfl, rfl, trivial⟩ ?_
  refine then_next ?_
  refine vc_seq ?_
  refine vc_seq ?_
  refine vc_region ?_
  refine vl_call co12 rfl (alive_d) rfl ?_
  rintro _ _ ⟨rfl, hLL⟩
  obtain rfl := hLL.symm
  refine vl_det (det_not_t rfl) rfl ?_
  refine vl_end [(0, _), (1, _), (2, _), (13, _)] ⟨rfl, rfl, rfl, rfl, trivial⟩ ?_
  refine then_next ?_
  refine vc_cond_f rfl ?_
  refine vc_skip ?_
  refine then_next ?_
  refine vc_seq ?_
  refine vc_seq ?_
  refine vc_region ?_
  refine vl_det (det_move rfl) rfl ?_
  refine vl_call co15 rfl (great_d l (by first | (exact Bor.own (by repeat (first | exact List.Mem.head _ | apply List.Mem.tail))) | (repeat (first | assumption | apply Bor.cons))) 50 3000 (by omega) (by omega)) rfl ?_
  rintro _ _ ⟨bg, rfl, hLL, hbg⟩
  obtain rfl := hLL.symm
  refine vl_end [(0, _), (1, _), (2, _), (15, _)] ⟨rfl, rfl, rfl, rfl, trivial⟩ ?_
  refine then_next ?_
  refine vc_condU rfl (fun h15 => ?_) (fun h15 => ?_)
  · skip
    refine vc_seq ?_
    refine vc_region ?_
    refine vl_det (det_assign rfl) rfl ?_
    refine vl_end [(6, _)] ⟨rfl, trivial⟩ ?_
    refine then_next ?_
    refine vc_ret ?_
    refine then_ret ?_
    refine ret1 rfl rfl ?_
    rfl
  · skip
    have hgr := hbg h15
    refine vc_skip ?_
    refine then_next ?_
    refine vc_seq ?_
    refine vc_region ?_
    refine vl_det (det_move rfl) rfl ?_
    refine vl_det (det_conv Try.underlying41 Try.underlying3 rfl (w_i64 (by omega) (by omega))) rfl ?_
    refine vl_det (det_rem rfl rfl (by omega) (tm300 z)) rfl ?_
    refine vl_det (det_add rfl rfl (r := (S : Int)) ((w_i64 (by omega) (by omega)).trans (by omega))) rfl ?_
    refine vl_det (det_assign rfl) rfl ?_
    refine vl_end [(1, _), (2, _), (7, _)] ⟨rfl, rfl, rfl, trivial⟩ ?_
    refine then_next ?_
    refine vc_seq ?_
    refine vc_region ?_
    refine vl_det (det_move rfl) rfl ?_
    refine vl_det (det_move rfl) rfl ?_
    refine vl_det (det_move rfl) rfl ?_
    refine vl_call co22 rfl (groups_d (S : Int) b l (by first | (exact Bor.own (by repeat (first | exact List.Mem.head _ | apply List.Mem.tail))) | (repeat (first | assumption | apply Bor.cons))) hx (by omega) S hS (by omega)) rfl ?_
    rintro _ _ ⟨A23, c23, rfl, hLL⟩
    obtain rfl := hLL.symm
    refine vl_det (det_assign rfl) rfl ?_
    refine vl_end [(1, _), (2, _), (7, _), (8, _)] ⟨rfl, rfl, rfl, rfl, trivial⟩ ?_
    refine then_next ?_
    refine vc_seq ?_
    generalize hG : groups S (lens b l) = G at hfit0 hgle ⊢
    refine vc_region ?_
    refine vl_det (det_assign rfl) rfl ?_
    refine vl_end [(1, _), (2, _), (7, _), (8, _), (9, _)] ⟨rfl, rfl, rfl, rfl, rfl, trivial⟩ ?_
    refine then_next ?_
    refine vc_seq ?_
    refine vc_seq ?_
    refine vc_region ?_
    refine vl_det (det_assign rfl) rfl ?_
    refine vl_end [(1, _), (2, _), (7, _), (8, _), (9, _), (10, _)] ⟨rfl, rfl, rfl, rfl, rfl, rfl, trivial⟩ ?_
    refine then_next ?_
    refine vc_block ?_
    refine vc_loopJ (fun zf zL zm => ∃ (i at_ : Nat), (i ≤ G.length ∧ at_ ≤ l.length ∧ Fit S ((lens b l).drop at_) (G.drop i)) ∧ G.length - i = zm ∧ Sub zf [(1, .bool b), (2, .slice A0 l.length c0), (7, .int .i64 S), (8, .slice A23 G.length c23), (9, .int .i64 at_), (10, .int .i64 i)] ∧ Wk zL (.own 3 1 A23 G.length c23 (natv G) :: [])) _ ⟨0, 0, ⟨Nat.zero_le _, Nat.zero_le _, hfit0⟩, rfl, ⟨(by first | rfl | exact int_to (by omega) | exact sl_to (by omega)), (by first | rfl | exact int_to (by omega) | exact sl_to (by omega)), (by first | rfl | exact int_to (by omega) | exact sl_to (by omega)), (by first | rfl | exact int_to (by omega) | exact sl_to (by omega)), (by first | rfl | exact int_to (by omega) | exact sl_to (by omega)), (by first | rfl | exact int_to (by omega) | exact sl_to (by omega)), trivial⟩, .refl _⟩ ?_
    rintro _ _ _ ⟨i, at_, ⟨hi, hat, hfit⟩, rfl, hs, hp⟩
    refine vc_weaken _ hs (vc_wk hp ?_)
    clear hs hp
    refine vc_seq ?_
    refine vc_seq ?_
    refine vc_region ?_
    refine vl_det (det_move rfl) rfl ?_
    refine vl_det (det_move rfl) rfl ?_
    refine vl_det (det_len_sl Try.underlying37 rfl) rfl ?_
    refine vl_det (det_lss rfl rfl) rfl ?_
    refine vl_end [(1, _), (2, _), (7, _), (8, _), (9, _), (10, _), (27, _)] ⟨rfl, rfl, rfl, rfl, rfl, rfl, rfl, trivial⟩ ?_
    refine then_next ?_
    refine vc_decideU rfl (fun h27 => ?_) (fun h27 => ?_)
    · skip
      obtain ⟨n, hn⟩ : ∃ n, n = G.getD i 0 := ⟨_, rfl⟩
      have hld : ∀ (j : Nat), (natv G)[i * 1]? = some (.int .i64 (n : Int)) := fun _ => by simp [hn, natv, List.getD, List.getElem?_eq_getElem (show i < G.length by omega)]
      rw [drop_getD (l := G) (show i < G.length by omega) 0, ← hn] at hfit
      obtain ⟨f1, f2, f3, f4, f5⟩ := hfit
      rw [List.length_drop, hll] at f2 f4
      have hws := wsum_le l (at_ + n)
      have hsub : ((l.take (at_ + n)).drop at_).length = at_ + n - at_ := by rw [List.length_drop, List.length_take]; omega
      have hxs : ∀ x ∈ (l.take (at_ + n)).drop at_, x.1 < 18446744073709551616 := fun x h => hx x (List.mem_of_mem_take (List.mem_of_mem_drop h))
      have hwsub : wsum ((l.take (at_ + n)).drop at_) ≤ wsum l := Nat.le_trans (wsum_drop _ _) hws
      have hcut := (hbo.head_ (k := at_ + n) (by omega)).cut (k := at_) (by omega)
      rw [recs_take, recs_drop, ← hsub] at hcut
      have hbl := recsB_lens b ((l.take (at_ + n)).drop at_)
      have hle2 : lens b ((l.take (at_ + n)).drop at_) = ((lens b l).drop at_).take n := by simp [lens, List.drop_take, ← List.map_take, ← List.map_drop]
      rw [hle2] at hbl
      have hbl2 := recsB_len (b := b) hxs (by omega)
      rw [hbl] at hbl2
      refine vc_skip ?_
      refine then_next ?_
      refine vc_seq ?_
      refine vc_block ?_
      refine vc_seq ?_
      refine vc_seq ?_
      refine vc_region ?_
      refine vl_cut 16 45 [(1, _), (2, _), (7, _), (8, _), (9, _), (10, _)] ((n : Int) < 1 ∨ (l.length : Int) - at_ < n) ⟨rfl, rfl, rfl, rfl, rfl, rfl, trivial⟩ ?_ ?_
      · skip
        refine vl_det (det_move rfl) rfl ?_
        refine vl_det (det_move rfl) rfl ?_
        refine vl_det (det_indexAddr (size := 1) Try.underlying37 (by kernel_rfl) rfl rfl rfl (by omega) (by first | (exact Bor.own (by repeat (first | exact List.Mem.head _ | apply List.Mem.tail))) | (repeat (first | assumption | apply Bor.cons)))) rfl ?_
        refine vl_det (det_load_row (v := .int .i64 n) (by kernel_rfl) rfl (by first | (exact Bor.own (by repeat (first | exact List.Mem.head _ | apply List.Mem.tail))) | (repeat (first | assumption | apply Bor.cons))) (by omega) (hld 0)) rfl ?_
        refine vl_det (det_lss rfl rfl) rfl ?_
        refine vl_det (det_move rfl) rfl ?_
        refine vl_guardn rfl rfl rfl (fun h35 => ?_) (fun h35 => ?_)
        · skip
          refine vl_det (det_move rfl) rfl ?_
          refine vl_guard_t rfl rfl ?_
          refine vl_det (det_move rfl) rfl ?_
          refine vl_guard_t rfl rfl ?_
          refine vl_det (det_indexAddr (size := 1) Try.underlying37 (by kernel_rfl) rfl rfl rfl (by omega) (by first | (exact Bor.own (by repeat (first | exact List.Mem.head _ | apply List.Mem.tail))) | (repeat (first | assumption | apply Bor.cons)))) rfl ?_
          refine vl_guard_t rfl rfl ?_
          refine vl_det (det_load_row (v := .int .i64 n) (by kernel_rfl) rfl (by first | (exact Bor.own (by repeat (first | exact List.Mem.head _ | apply List.Mem.tail))) | (repeat (first | assumption | apply Bor.cons))) (by omega) (hld 0)) rfl ?_
          refine vl_guard_t rfl rfl ?_
          refine vl_det (det_move rfl) rfl ?_
          refine vl_guard_t rfl rfl ?_
          refine vl_det (det_len_sl Try.underlying22 rfl) rfl ?_
          refine vl_guard_t rfl rfl ?_
          refine vl_det (det_move rfl) rfl ?_
          refine vl_guard_t rfl rfl ?_
          refine vl_det (det_sub rfl rfl (w_i64 (by omega) (by omega))) rfl ?_
          refine vl_guard_t rfl rfl ?_
          refine vl_det (det_gtr rfl rfl) rfl ?_
          refine vl_det (det_pick_f rfl rfl) rfl ?_
          exact vl_cut_end ⟨rfl, rfl, rfl, rfl, rfl, rfl, trivial⟩ (by first | rfl | exact bool_to_t (by first | omega | simp_all) | exact bool_to_f (by first | omega | simp_all) | exact bool_to (by first | omega | simp_all) | exact bool_to_b (by first | omega | simp_all))
        · skip
          refine vl_guard_f rfl rfl rfl rfl ?_
          refine vl_guard_f rfl rfl rfl rfl ?_
          refine vl_guard_f rfl rfl rfl rfl ?_
          refine vl_guard_f rfl rfl rfl rfl ?_
          refine vl_guard_f rfl rfl rfl rfl ?_
          refine vl_guard_f rfl rfl rfl rfl ?_
          refine vl_guard_f rfl rfl rfl rfl ?_
          refine vl_guard_f rfl rfl rfl rfl ?_
          refine vl_det (det_pick_t rfl rfl) rfl ?_
          exact vl_cut_end ⟨rfl, rfl, rfl, rfl, rfl, rfl, trivial⟩ (by first | rfl | exact bool_to_t (by first | omega | simp_all) | exact bool_to_f (by first | omega | simp_all) | exact bool_to (by first | omega | simp_all) | exact bool_to_b (by first | omega | simp_all))
      · skip
        refine vl_end [(1, _), (2, _), (7, _), (8, _), (9, _), (10, _), (45, _)] ⟨rfl, rfl, rfl, rfl, rfl, rfl, rfl, trivial⟩ ?_
        refine then_next ?_
        refine vc_decideU rfl (fun h45 => ?_) (fun h45 => ?_)
        · skip
          exfalso; omega
        · skip
          refine vc_skip ?_
          refine then_next ?_
          refine vc_seq ?_
          refine vc_region ?_
          refine vl_det (det_move rfl) rfl ?_
          refine vl_det (det_move rfl) rfl ?_
          refine vl_det (det_move rfl) rfl ?_
          refine vl_det (det_move rfl) rfl ?_
          refine vl_det (det_move rfl) rfl ?_
          refine vl_det (det_move rfl) rfl ?_
          refine vl_det (det_indexAddr (size := 1) Try.underlying37 (by kernel_rfl) rfl rfl rfl (by omega) (by first | (exact Bor.own (by repeat (first | exact List.Mem.head _ | apply List.Mem.tail))) | (repeat (first | assumption | apply Bor.cons)))) rfl ?_
          refine vl_det (det_load_row (v := .int .i64 n) (by kernel_rfl) rfl (by first | (exact Bor.own (by repeat (first | exact List.Mem.head _ | apply List.Mem.tail))) | (repeat (first | assumption | apply Bor.cons))) (by omega) (hld 0)) rfl ?_
          refine vl_det (det_add rfl rfl (w_i64 (by omega) (by omega))) rfl ?_
          refine vl_det (det_slice_both (i := at_) (j := at_ + n) (size := 4) Try.underlying22 (by kernel_rfl) rfl rfl rfl rfl rfl (by omega) (by omega)) rfl ?_
          rw [← hsub]
          refine vl_call co19 rfl ((bytes_d b ((l.take (at_ + n)).drop at_) (by first | (exact Bor.own (by repeat (first | exact List.Mem.head _ | apply List.Mem.tail))) | (repeat (first | assumption | apply Bor.cons))) hxs (by omega)).forget) rfl ?_
          rintro _ _ ⟨A56, c56, rfl, hLL⟩
          obtain rfl := hLL.symm
          refine vl_det (det_len_sl Try.underlying32 rfl) rfl ?_
          refine vl_det (det_assign rfl) rfl ?_
          refine vl_end [(1, _), (2, _), (7, _), (8, _), (9, _), (10, _), (11, _)] ⟨rfl, rfl, rfl, rfl, rfl, rfl, rfl, trivial⟩ ?_
          refine then_next ?_
          refine vc_seq ?_
          refine vc_seq ?_
          rw [hbl]
          refine vc_region ?_
          refine vl_cut 10 67 [(1, _), (2, _), (7, _), (8, _), (9, _), (10, _), (11, _)] ((1 : Int) < n ∧ (S : Int) < ((((lens b l).drop at_).take n).sum : Nat)) ⟨rfl, rfl, rfl, rfl, rfl, rfl, rfl, trivial⟩ ?_ ?_
          · skip
            refine vl_det (det_move rfl) rfl ?_
            refine vl_det (det_move rfl) rfl ?_
            refine vl_det (det_indexAddr (size := 1) Try.underlying37 (by kernel_rfl) rfl rfl rfl (by omega) (by first | (exact Bor.own (by repeat (first | exact List.Mem.head _ | apply List.Mem.tail))) | (repeat (first | assumption | apply Bor.cons)))) rfl ?_
            refine vl_det (det_load_row (v := .int .i64 n) (by kernel_rfl) rfl (by first | (exact Bor.own (by repeat (first | exact List.Mem.head _ | apply List.Mem.tail))) | (repeat (first | assumption | apply Bor.cons))) (by omega) (hld 0)) rfl ?_
            refine vl_det (det_gtr rfl rfl) rfl ?_
            refine vl_det (det_move rfl) rfl ?_
            refine vl_guardp rfl rfl rfl (fun h63 => ?_) (fun h63 => ?_)
            · skip
              refine vl_det (det_move rfl) rfl ?_
              refine vl_guard_t rfl rfl ?_
              refine vl_det (det_move rfl) rfl ?_
              refine vl_guard_t rfl rfl ?_
              refine vl_det (det_gtr rfl rfl) rfl ?_
              refine vl_det (det_pick_t rfl rfl) rfl ?_
              exact vl_cut_end ⟨rfl, rfl, rfl, rfl, rfl, rfl, rfl, trivial⟩ (by first | rfl | exact bool_to_t (by first | omega | simp_all) | exact bool_to_f (by first | omega | simp_all) | exact bool_to (by first | omega | simp_all) | exact bool_to_b (by first | omega | simp_all))
            · skip
              refine vl_guard_f rfl rfl rfl rfl ?_
              refine vl_guard_f rfl rfl rfl rfl ?_
              refine vl_det (det_pick_f rfl rfl) rfl ?_
              exact vl_cut_end ⟨rfl, rfl, rfl, rfl, rfl, rfl, rfl, trivial⟩ (by first | rfl | exact bool_to_t (by first | omega | simp_all) | exact bool_to_f (by first | omega | simp_all) | exact bool_to (by first | omega | simp_all) | exact bool_to_b (by first | omega | simp_all))
          · skip
            refine vl_end [(1, _), (2, _), (7, _), (8, _), (9, _), (10, _), (11, _), (67, _)] ⟨rfl, rfl, rfl, rfl, rfl, rfl, rfl, rfl, trivial⟩ ?_
            refine then_next ?_
            refine vc_decideU rfl (fun h67 => ?_) (fun h67 => ?_)
            · skip
              exfalso; omega
            · skip
              refine vc_skip ?_
              refine then_next ?_
              refine vc_seq ?_
              refine vc_region ?_
              refine vl_det (det_move rfl) rfl ?_
              refine vl_det (det_move rfl) rfl ?_
              refine vl_det (det_move rfl) rfl ?_
              refine vl_det (det_indexAddr (size := 1) Try.underlying37 (by kernel_rfl) rfl rfl rfl (by omega) (by first | (exact Bor.own (by repeat (first | exact List.Mem.head _ | apply List.Mem.tail))) | (repeat (first | assumption | apply Bor.cons)))) rfl ?_
              refine vl_det (det_load_row (v := .int .i64 n) (by kernel_rfl) rfl (by first | (exact Bor.own (by repeat (first | exact List.Mem.head _ | apply List.Mem.tail))) | (repeat (first | assumption | apply Bor.cons))) (by omega) (hld 0)) rfl ?_
              refine vl_det (det_add rfl rfl (w_i64 (by omega) (by omega))) rfl ?_
              refine vl_det (det_assign rfl) rfl ?_
              refine vl_end [(1, _), (2, _), (7, _), (8, _), (9, _), (10, _), (11, _)] ⟨rfl, rfl, rfl, rfl, rfl, rfl, rfl, trivial⟩ ?_
              refine then_next ?_
              refine vc_seq ?_
              refine vc_region ?_
              refine vl_det (det_move rfl) rfl ?_
              refine vl_det (det_move rfl) rfl ?_
              refine vl_det (det_len_sl Try.underlying22 rfl) rfl ?_
              refine vl_det (det_lss rfl rfl) rfl ?_
              refine vl_det (det_move rfl) rfl ?_
              refine vl_guardp rfl rfl rfl (fun h78 => ?_) (fun h78 => ?_)
              · skip
                have hxk := recAt_lt hx (k := at_ + n) (by omega)
                have hwk := w_le (L := l) (k := at_ + n) (by omega)
                have f4' := f4 (by omega)
                have hone := rec_one (recAt l (at_ + n))
                have hbl1 : (recsB b [recAt l (at_ + n)]).length = (recB b (recAt l (at_ + n))).length := by simp [recsB]
                have hrb1 := recB_len (b := b) hxk (by omega)
                have hgd : ((lens b l).drop at_).getD n 0 = (recB b (recAt l (at_ + n))).length := by
                  have := lens_drop (b := b) (L := l) (k := at_ + n) (by omega)
                  rw [drop_getD (l := lens b l) (by omega) 0] at this
                  injection this with this
                  rw [← this]; simp [List.getD, List.getElem?_drop]
                refine vl_det (det_move rfl) rfl ?_
                refine vl_guard_t rfl rfl ?_
                refine vl_det (det_move rfl) rfl ?_
                refine vl_guard_t rfl rfl ?_
                refine vl_det (det_move rfl) rfl ?_
                refine vl_guard_t rfl rfl ?_
                refine vl_det (det_move rfl) rfl ?_
                refine vl_guard_t rfl rfl ?_
                refine vl_det (det_indexAddr (i := at_ + n) (size := 4) Try.underlying22 (by kernel_rfl) rfl rfl rfl (by omega) (by first | (exact Bor.own (by repeat (first | exact List.Mem.head _ | apply List.Mem.tail))) | (repeat (first | assumption | apply Bor.cons)))) rfl ?_
                refine vl_guard_t rfl rfl ?_
                refine vl_det (det_load_rowa 4 (by kernel_rfl) rfl (by first | (exact Bor.own (by repeat (first | exact List.Mem.head _ | apply List.Mem.tail))) | (repeat (first | assumption | apply Bor.cons))) (by omega) (RecC.cells (recAt l (at_ + n))) (rec_cells (by omega)) rfl) rfl ?_
                refine vl_guard_t rfl rfl ?_
                refine vl_eff (eff_build1s (us := RecC.cells (recAt l (at_ + n))) slT22 rfl rfl rfl (by omega)) rfl ?_
                rintro _ _ ⟨A85, rfl, rfl⟩
                refine vl_guard_t rfl rfl ?_
                refine vl_call co19 rfl ((bytes_d b [recAt l (at_ + n)] (by first | (exact Bor.own (by repeat (first | exact List.Mem.head _ | apply List.Mem.tail))) | (repeat (first | assumption | apply Bor.cons))) (by simpa using hxk) (by simp [wsum]; omega)).forget) rfl ?_
                rintro _ _ ⟨A86, c86, rfl, hLL⟩
                obtain rfl := hLL.symm
                refine vl_guard_t rfl rfl ?_
                refine vl_det (det_len_sl Try.underlying32 rfl) rfl ?_
                rw [hbl1]
                refine vl_guard_t rfl rfl ?_
                refine vl_det (det_add rfl rfl (w_i64 (by omega) (by omega))) rfl ?_
                refine vl_guard_t rfl rfl ?_
                refine vl_det (det_move rfl) rfl ?_
                refine vl_guard_t rfl rfl ?_
                refine vl_det (det_leq rfl rfl) rfl ?_
                refine vl_det (det_pick_t rfl rfl) rfl ?_
                refine vl_end [(1, _), (2, _), (7, _), (8, _), (9, _), (10, _), (91, _)] ⟨rfl, rfl, rfl, rfl, rfl, rfl, rfl, trivial⟩ ?_
                refine then_next ?_
                refine vc_decideU rfl (fun h91 => ?_) (fun h91 => ?_)
                · skip
                  exfalso; omega
                · skip
                  refine vc_skip ?_
                  refine in_normal ?_
                  refine then_next ?_
                  refine vc_region ?_
                  refine vl_det (det_move rfl) rfl ?_
                  refine vl_det (det_add rfl rfl (w_i64 (by omega) (by omega))) rfl ?_
                  refine vl_det (det_assign rfl) rfl ?_
                  refine vl_end [(1, _), (2, _), (7, _), (8, _), (9, _), (10, _)] ⟨rfl, rfl, rfl, rfl, rfl, rfl, trivial⟩ ?_
                  refine in_loop_ ⟨_, by omega, i + 1, at_ + n, ⟨by omega, by omega, by rw [← List.drop_drop]; exact f5⟩, rfl, ⟨(by first | rfl | exact int_to (by omega) | exact sl_to (by omega)), (by first | rfl | exact int_to (by omega) | exact sl_to (by omega)), (by first | rfl | exact int_to (by omega) | exact sl_to (by omega)), (by first | rfl | exact int_to (by omega) | exact sl_to (by omega)), (by first | rfl | exact int_to (by omega) | exact sl_to (by omega)), (by first | rfl | exact int_to (by omega) | exact sl_to (by omega)), trivial⟩, .skip (.refl _)⟩
              · skip
                refine vl_guard_f rfl rfl rfl rfl ?_
                refine vl_guard_f rfl rfl rfl rfl ?_
                refine vl_guard_f rfl rfl rfl rfl ?_
                refine vl_guard_f rfl rfl rfl rfl ?_
                refine vl_guard_f rfl rfl rfl rfl ?_
                refine vl_guard_f rfl rfl rfl rfl ?_
                refine vl_guard_f rfl rfl rfl rfl ?_
                refine vl_guard_f rfl rfl rfl rfl ?_
                refine vl_guard_f rfl rfl rfl rfl ?_
                refine vl_guard_f rfl rfl rfl rfl ?_
                refine vl_guard_f rfl rfl rfl rfl ?_
                refine vl_det (det_pick_f rfl rfl) rfl ?_
                refine vl_end [(1, _), (2, _), (7, _), (8, _), (9, _), (10, _), (91, _)] ⟨rfl, rfl, rfl, rfl, rfl, rfl, rfl, trivial⟩ ?_
                refine then_next ?_
                refine vc_cond_f rfl ?_
                refine vc_skip ?_
                refine in_normal ?_
                refine then_next ?_
                refine vc_region ?_
                refine vl_det (det_move rfl) rfl ?_
                refine vl_det (det_add rfl rfl (w_i64 (by omega) (by omega))) rfl ?_
                refine vl_det (det_assign rfl) rfl ?_
                refine vl_end [(1, _), (2, _), (7, _), (8, _), (9, _), (10, _)] ⟨rfl, rfl, rfl, rfl, rfl, rfl, trivial⟩ ?_
                refine in_loop_ ⟨_, by omega, i + 1, at_ + n, ⟨by omega, by omega, by rw [← List.drop_drop]; exact f5⟩, rfl, ⟨(by first | rfl | exact int_to (by omega) | exact sl_to (by omega)), (by first | rfl | exact int_to (by omega) | exact sl_to (by omega)), (by first | rfl | exact int_to (by omega) | exact sl_to (by omega)), (by first | rfl | exact int_to (by omega) | exact sl_to (by omega)), (by first | rfl | exact int_to (by omega) | exact sl_to (by omega)), (by first | rfl | exact int_to (by omega) | exact sl_to (by omega)), trivial⟩, .refl _⟩
    · skip
      refine vc_exit ?_
      refine then_exit ?_
      refine loop_exit ?_
      refine in_eq ?_
      refine then_next ?_
      refine vc_seq ?_
      refine vc_region ?_
      refine vl_det (det_move rfl) rfl ?_
      refine vl_det (det_move rfl) rfl ?_
      refine vl_det (det_len_sl Try.underlying22 rfl) rfl ?_
      refine vl_det (det_eql rfl rfl) rfl ?_
      refine vl_det (det_assign rfl) rfl ?_
      refine vl_end [(6, _)] ⟨rfl, trivial⟩ ?_
      refine then_next ?_
      refine vc_ret ?_
      rw [List.drop_of_length_le (l := G) (show G.length ≤ i by omega)] at hfit
      have hfit' : (lens b l).drop at_ = [] := hfit
      have he := congrArg List.length hfit'
      rw [List.length_drop, hll, List.length_nil] at he
      refine ret_wk (L' := []) (.skip (.refl _)) ?_
      refine ret1 rfl rfl ?_
      rw [decide_eq_true (by omega)]
theorem own : ownKnob Try.prog.godebug = none := by kernel_rfl
theorem laidOut : laidOutB Try.prog = true := by kernel_rfl
set_option maxRecDepth 100000 in
theorem lifted (os : Os) (started : os.Started) (H : Type) (enc : TypeId × Value → H) :
    ReturnsInHanded {} Try.checked os 6 .any (Rows.recsFitsSpec.pre6 enc Try.prog Try.f6 Rows.recsFitsRow.domain false) (Rows.recsFitsSpec.post enc Try.prog Try.f6 false true false false) := by
  refine returnsInHanded_of_change (C := Try.checked) own started (by kernel_rfl) Try.func6
    (ChangeSpec.witness6 (enc := enc) (C := Try.checked) false ⟨#[], #[.int .u16 0, .bool false, .slice none 0 0], []⟩ 8 (by kernel_rfl) (by kernel_rfl) (by kernel_rfl) (by kernel_rfl)) ?_
  intro W base args ds gs before hval0 hW hcnd _
  have hval : ∀ (j : Nat) t v, Try.f6.params[j]? = some t → args[j]? = some v → Value.okWide Try.prog W .any base t v := hval0
  have hW' := hW
  obtain ⟨p, q, hA0, hV, rfl, hfz, hnd⟩ := hW
  have hA : DataW.TrodAll enc Try.prog W 0 (fun _ => true) true Try.f6.params.toList args.toList ds p := hA0
  rw [Try.params6] at hA hval
  obtain ⟨v0', vs0, d0, ds0, p0, q0, hargs, rfl, rfl, h0', r0⟩ := trodAll_cons hA
  obtain ⟨v1', vs1, d1, ds1, p1, q1, rfl, rfl, rfl, h1', r1⟩ := trodAll_cons r0
  obtain ⟨v2', vs2, d2, ds2, p2, q2, rfl, rfl, rfl, h2', r2⟩ := trodAll_cons r1
  obtain ⟨rfl, rfl, rfl⟩ := trodAll_nil r2
  obtain rfl : args = #[v0', v1', v2'] := by cases args; simp_all
  obtain ⟨rfl, rfl⟩ := trodVars_none hV
  have k0 := h0'
  have lt0 : ∀ x ∈ p0, x.block < W.heap.size := by obtain ⟨m, hm⟩ := k0; exact DataW.trod_lt m _ _ _ hm
  obtain ⟨a0, rfl, hd0, hp0, w0⟩ := open_int Try.underlying41 (hval 0 41 v0' rfl rfl) h0'
  have bd0 := bounds_u16 w0
  obtain ⟨n0, rfl⟩ := Int.eq_ofNat_of_zero_le bd0.1
  have k1 := h1'
  have lt1 : ∀ x ∈ p1, x.block < W.heap.size := by obtain ⟨m, hm⟩ := k1; exact DataW.trod_lt m _ _ _ hm
  obtain ⟨a1, rfl, hd1, hp1⟩ := open_bool Try.underlying4 (hval 1 4 v1' rfl rfl) h1'
  have k2 := h2'
  have lt2 : ∀ x ∈ p2, x.block < W.heap.size := by obtain ⟨m, hm⟩ := k2; exact DataW.trod_lt m _ _ _ hm
  obtain ⟨A2, n2, c2, rfl⟩ := okWide_slice Try.underlying22 (hval 2 22 v2' rfl rfl)
  obtain ⟨⟨u2, L2⟩, e2, hr2, ho2, hm2⟩ := DecT.arg (dec_slice Try.underlying22 (by kernel_rfl : Try.prog.cellsOf 44 = 4) (by omega) (fun _ => rfl) (dec_rec W)) k2
  obtain rfl := cells_slice A2 n2 c2 rfl e2
  clear hA0 hval0
  refine (walk W n0 (by omega) a1 _ L2 hr2 ho2 hm2).mono fun e W' ⟨he, bel⟩ => ?_
  subst he
  exact ⟨_, rfl, _, _, _, [], _, [], hW', trodAll_mk1 (shut_bool Try.underlying4 _), (trodAll_cons_mk (Below.trod laidOut (by kernel_rfl) (of_decide_eq_true (by kernel_rfl)) k0 bel lt0) (trodAll_cons_mk (Below.trod laidOut (by kernel_rfl) (of_decide_eq_true (by kernel_rfl)) k1 bel lt1) (trodAll_cons_mk (Below.trod laidOut (by kernel_rfl) (of_decide_eq_true (by kernel_rfl)) k2 bel lt2) trodAll_mk0))), rfl, bel.frame _, fun h => by cases h⟩

theorem over : Rows.recsFitsRow.holds Try.pinned (OpenSpec.ofChange Rows.recsFitsSpec) :=
  OpenClaim.holds_of_wide 6 Try.f6 rfl rfl rfl rfl rfl rfl rfl ⟨rfl, rfl, rfl, rfl, rfl⟩ rfl rfl rfl rfl rfl (by kernel_rfl) Try.func6 (by kernel_rfl)
    (of_decide_eq_true (by kernel_rfl)) (by unfold Func.isWrapper; first | (rw [if_pos (by decide +kernel)]; kernel_rfl) | (rw [if_neg (by decide +kernel)]; exact ⟨rfl, rfl⟩))
    (fun os started H enc _ => lifted os started H enc)

theorem proved : Rows.RecsFitsSaid := over
#print axioms proved
end Go.Proofs.Ytlbdhdocagahpaa.lawRecsFits
