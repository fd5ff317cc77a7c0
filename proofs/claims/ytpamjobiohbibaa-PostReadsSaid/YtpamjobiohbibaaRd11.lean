/-
  Texts of one proof, joined: part 11. No condition.
-/
import Derived.Test.YtpamjobiohbibaaRd10
namespace Go.Proofs.Ytpamjobiohbibaa
open Go.RowKit
set_option linter.unusedVariables false
set_option maxRecDepth 20000
variable {B : Nat} {w0 : World} {F : List Ch} {A A1 A2 : Option Addr} {n c c1 c2 g : Nat} {bound size : Int}
theorem lsR_pos {b : List UInt8} {k : Nat} {out : List (List Nat)} : (lsR bound (k + 1) b out) = if (efRd bound b).2.2 ≠ 0 then ([], (efRd bound b).2.2) else if (efRd bound b).1.length = 0 then ([], 2) else lsR bound k (b.drop (efRd bound b).2.1) (out ++ [(efRd bound b).1]) := rfl
theorem wk_lrow {e : Lst} {O : List Lst} : Wk (lRow e :: (O.map lRow ++ F)) ((O ++ [e]).map lRow ++ F) := by
  rw [List.map_append, List.append_assoc]
  exact .of_perm List.perm_middle.symm
theorem rread18_1 {b : List UInt8} (hE : ((size < 1 ∨ 64 < size) ∨ bound < 0) ∨ 20000 < bound) : Does Try.prog B w0 25 [.int .i64 size, .int .i64 bound, .slice A b.length c] F (IdxQ (idxRd size bound b) F) := by
  have e : idxRd size bound b = ([], [], 13) := by
    by_cases h : bound < 0 ∨ 20000 < bound
    · exact idxRd_a h
    · have h2 : size < 1 ∨ 64 < size := hE.elim (fun q => q.elim id fun q => absurd (.inl q) h) fun q => absurd (.inr q) h
      rw [idxRd_b h (by rw [dictR_bad h2]; decide), dictR_bad h2]
  rw [e]
  refine fn_walk Try.func25 82 rfl rfl rfl [(0, .int .i64 size), (1, .int .i64 bound), (2, .slice A b.length c)] ⟨⟨rfl, rfl⟩, ⟨rfl, rfl⟩, ⟨rfl, rfl⟩, trivial⟩ ?_
  refine vc_seq ?_
  refine vc_region ?_
  refine vl_eff (eff_alloc_z (zv := (.agg #[.slice none 0 0, .slice none 0 0])) (by kernel_rfl) rfl) rfl ?_
  rintro _ _ ⟨g6, rfl, rfl⟩
  refine vl_det (det_assign rfl) rfl ?_
  refine vl_end [(0, _), (1, _), (2, _), (6, _)] ⟨rfl, rfl, rfl, rfl, trivial⟩ ?_
  refine then_next ?_
  refine vc_seq ?_
  refine vc_seq ?_
  refine vc_region ?_
  refine vl_cut 14 29 [(0, _), (1, _), (2, _), (6, _)] (((size < 1 ∨ 64 < size) ∨ bound < 0) ∨ 20000 < bound) ⟨rfl, rfl, rfl, rfl, trivial⟩ ?_ ?_
  · skip
    refine vl_det (det_move rfl) rfl ?_
    refine vl_det (det_lss rfl rfl) rfl ?_
    refine vl_det (det_move rfl) rfl ?_
    refine vl_guardn rfl rfl rfl (fun h18 => ?_) (fun h18 => ?_)
    · skip
      refine vl_det (det_move rfl) rfl ?_
      refine vl_guard_t rfl rfl ?_
      refine vl_det (det_gtr rfl rfl) rfl ?_
      refine vl_det (det_pick_f rfl rfl) rfl ?_
      refine vl_det (det_move rfl) rfl ?_
      refine vl_guardn rfl rfl rfl (fun h22 => ?_) (fun h22 => ?_)
      · skip
        refine vl_det (det_move rfl) rfl ?_
        refine vl_guard_t rfl rfl ?_
        refine vl_det (det_lss rfl rfl) rfl ?_
        refine vl_det (det_pick_f rfl rfl) rfl ?_
        refine vl_det (det_move rfl) rfl ?_
        refine vl_guardn rfl rfl rfl (fun h26 => ?_) (fun h26 => ?_)
        · skip
          refine vl_det (det_move rfl) rfl ?_
          refine vl_guard_t rfl rfl ?_
          refine vl_det (det_gtr rfl rfl) rfl ?_
          refine vl_det (det_pick_f rfl rfl) rfl ?_
          exact vl_cut_end ⟨rfl, rfl, rfl, rfl, trivial⟩ (by first | rfl | exact bool_to_t (by first | omega | simp_all) | exact bool_to_f (by first | omega | simp_all) | exact bool_to (by first | omega | simp_all) | exact bool_to_b (by first | omega | simp_all))
        · skip
          refine vl_guard_f rfl rfl rfl rfl ?_
          refine vl_det (det_pick_t rfl rfl) rfl ?_
          exact vl_cut_end ⟨rfl, rfl, rfl, rfl, trivial⟩ (by first | rfl | exact bool_to_t (by first | omega | simp_all) | exact bool_to_f (by first | omega | simp_all) | exact bool_to (by first | omega | simp_all) | exact bool_to_b (by first | omega | simp_all))
      · skip
        refine vl_guard_f rfl rfl rfl rfl ?_
        refine vl_det (det_pick_t rfl rfl) rfl ?_
        refine vl_det (det_move rfl) rfl ?_
        refine vl_guard_f rfl rfl rfl rfl ?_
        refine vl_guard_f rfl rfl rfl rfl ?_
        refine vl_det (det_pick_t rfl rfl) rfl ?_
        exact vl_cut_end ⟨rfl, rfl, rfl, rfl, trivial⟩ (by first | rfl | exact bool_to_t (by first | omega | simp_all) | exact bool_to_f (by first | omega | simp_all) | exact bool_to (by first | omega | simp_all) | exact bool_to_b (by first | omega | simp_all))
    · skip
      refine vl_guard_f rfl rfl rfl rfl ?_
      refine vl_det (det_pick_t rfl rfl) rfl ?_
      refine vl_det (det_move rfl) rfl ?_
      refine vl_guard_f rfl rfl rfl rfl ?_
      refine vl_guard_f rfl rfl rfl rfl ?_
      refine vl_det (det_pick_t rfl rfl) rfl ?_
      refine vl_det (det_move rfl) rfl ?_
      refine vl_guard_f rfl rfl rfl rfl ?_
      refine vl_guard_f rfl rfl rfl rfl ?_
      refine vl_det (det_pick_t rfl rfl) rfl ?_
      exact vl_cut_end ⟨rfl, rfl, rfl, rfl, trivial⟩ (by first | rfl | exact bool_to_t (by first | omega | simp_all) | exact bool_to_f (by first | omega | simp_all) | exact bool_to (by first | omega | simp_all) | exact bool_to_b (by first | omega | simp_all))
  · skip
    refine vl_end [(0, _), (1, _), (2, _), (6, _), (29, _)] ⟨rfl, rfl, rfl, rfl, rfl, trivial⟩ ?_
    refine then_next ?_
    refine vc_decideU rfl (fun h29 => ?_) (fun h29 => ?_)
    · skip
      refine vc_seq ?_
      refine vc_region ?_
      refine vl_det (det_build0 [.slice none 0 0, .slice none 0 0] (by kernel_rfl)) rfl ?_
      refine vl_eff0 (eff_store_whole 2 (by kernel_rfl) rfl rfl (by first | exact bv_one _ | exact strs_one _ | exact ints_one _ _ | (simp; done) | (simp [Value.oneCell']; done) | assumption) (by repeat (first | exact .hd | apply Sel.tl)) (by first | rfl | (simp; omega) | (simp [*]; done)) (by first | rfl | (simp; omega) | (simp [*]; done))) ?_
      rintro _ _ rfl
      refine vl_det (det_assign rfl) rfl ?_
      refine vl_end [(6, _), (7, _)] ⟨rfl, rfl, trivial⟩ ?_
      refine then_next ?_
      refine vc_ret ?_
      refine then_ret ?_
      refine ret_nil_row 37 1 none ?_
      refine ret_nil_row 9 1 none ?_
      refine ret_ct rfl rfl (by kernel_rfl) (by repeat (first | exact .hd | apply Sel.tl)) (by first | rfl | (simp; omega) | (simp [*]; done)) rfl (.cons (.cons (.skip (.refl _)))) ?_
      exact idxQ_err rfl
    · skip
      exfalso; exact h29 hE
theorem rread18_2 {b : List UInt8} (hE : ¬ (((size < 1 ∨ 64 < size) ∨ bound < 0) ∨ 20000 < bound)) (hb : Bor B w0 F 1 (.slice A b.length c) b.length (bv b)) (hbl : b.length ≤ 100000) :
    Does Try.prog B w0 25 [.int .i64 size, .int .i64 bound, .slice A b.length c] F (IdxQ (idxRd size bound b) F) := by
  have hEb : ¬ (bound < 0 ∨ 20000 < bound) := fun h => hE (h.elim (fun q => .inl (.inr q)) .inr)
  have hEs : ¬ (size < 1 ∨ 64 < size) := fun h => hE (.inl (.inl h))
  obtain ⟨sz, rfl⟩ := Int.eq_ofNat_of_zero_le (show 0 ≤ size by omega)
  have hR0 := @idxRd_b sz bound b hEb
  have hR1 := @idxRd_c sz bound b hEb
  have hR2 := @idxRd_d sz bound b hEb
  have hIL : idxL sz bound b = lsR bound (dictR sz b).1.length (b.drop (dictR sz b).2.1) [] := rfl
  have hdo := fun h => @dict_one sz b (by omega) (by omega) h
  obtain ⟨G, hG⟩ : ∃ G, G = idxL sz bound b := ⟨_, rfl⟩
  rw [← hG] at hR1 hR2 hIL
  obtain ⟨D, hD⟩ : ∃ D, D = dictR sz b := ⟨_, rfl⟩
  have hrd := fun F' hb' => @rread16_d B w0 F' A c sz b hb' (by omega)
  rw [← hD] at hR0 hR1 hR2 hIL hdo hrd
  clear hG
  obtain ⟨T, t, er⟩ := D
  unfold Rd16 at hrd
  simp only at hR0 hR1 hR2 hIL hdo hrd
  clear hD
  refine fn_walk Try.func25 82 rfl rfl rfl [(0, .int .i64 sz), (1, .int .i64 bound), (2, .slice A b.length c)] ⟨⟨rfl, rfl⟩, ⟨rfl, rfl⟩, ⟨rfl, rfl⟩, trivial⟩ ?_
  refine vc_seq ?_
  refine vc_region ?_
  refine vl_eff (eff_alloc_z (zv := (.agg #[.slice none 0 0, .slice none 0 0])) (by kernel_rfl) rfl) rfl ?_
  rintro _ _ ⟨g6, rfl, rfl⟩
  refine vl_det (det_assign rfl) rfl ?_
  refine vl_end [(0, _), (1, _), (2, _), (6, _)] ⟨rfl, rfl, rfl, rfl, trivial⟩ ?_
  refine then_next ?_
  refine vc_seq ?_
  refine vc_seq ?_
  refine vc_region ?_
  refine vl_cut 14 29 [(0, _), (1, _), (2, _), (6, _)] ((((sz : Int) < 1 ∨ 64 < (sz : Int)) ∨ bound < 0) ∨ 20000 < bound) ⟨rfl, rfl, rfl, rfl, trivial⟩ ?_ ?_
  · skip
    refine vl_det (det_move rfl) rfl ?_
    refine vl_det (det_lss rfl rfl) rfl ?_
    refine vl_det (det_move rfl) rfl ?_
    refine vl_guardn rfl rfl rfl (fun h18 => ?_) (fun h18 => ?_)
    · skip
      refine vl_det (det_move rfl) rfl ?_
      refine vl_guard_t rfl rfl ?_
      refine vl_det (det_gtr rfl rfl) rfl ?_
      refine vl_det (det_pick_f rfl rfl) rfl ?_
      refine vl_det (det_move rfl) rfl ?_
      refine vl_guardn rfl rfl rfl (fun h22 => ?_) (fun h22 => ?_)
      · skip
        refine vl_det (det_move rfl) rfl ?_
        refine vl_guard_t rfl rfl ?_
        refine vl_det (det_lss rfl rfl) rfl ?_
        refine vl_det (det_pick_f rfl rfl) rfl ?_
        refine vl_det (det_move rfl) rfl ?_
        refine vl_guardn rfl rfl rfl (fun h26 => ?_) (fun h26 => ?_)
        · skip
          refine vl_det (det_move rfl) rfl ?_
          refine vl_guard_t rfl rfl ?_
          refine vl_det (det_gtr rfl rfl) rfl ?_
          refine vl_det (det_pick_f rfl rfl) rfl ?_
          exact vl_cut_end ⟨rfl, rfl, rfl, rfl, trivial⟩ (by first | rfl | exact bool_to_t (by first | omega | simp_all) | exact bool_to_f (by first | omega | simp_all) | exact bool_to (by first | omega | simp_all) | exact bool_to_b (by first | omega | simp_all))
        · skip
          refine vl_guard_f rfl rfl rfl rfl ?_
          refine vl_det (det_pick_t rfl rfl) rfl ?_
          exact vl_cut_end ⟨rfl, rfl, rfl, rfl, trivial⟩ (by first | rfl | exact bool_to_t (by first | omega | simp_all) | exact bool_to_f (by first | omega | simp_all) | exact bool_to (by first | omega | simp_all) | exact bool_to_b (by first | omega | simp_all))
      · skip
        refine vl_guard_f rfl rfl rfl rfl ?_
        refine vl_det (det_pick_t rfl rfl) rfl ?_
        refine vl_det (det_move rfl) rfl ?_
        refine vl_guard_f rfl rfl rfl rfl ?_
        refine vl_guard_f rfl rfl rfl rfl ?_
        refine vl_det (det_pick_t rfl rfl) rfl ?_
        exact vl_cut_end ⟨rfl, rfl, rfl, rfl, trivial⟩ (by first | rfl | exact bool_to_t (by first | omega | simp_all) | exact bool_to_f (by first | omega | simp_all) | exact bool_to (by first | omega | simp_all) | exact bool_to_b (by first | omega | simp_all))
    · skip
      refine vl_guard_f rfl rfl rfl rfl ?_
      refine vl_det (det_pick_t rfl rfl) rfl ?_
      refine vl_det (det_move rfl) rfl ?_
      refine vl_guard_f rfl rfl rfl rfl ?_
      refine vl_guard_f rfl rfl rfl rfl ?_
      refine vl_det (det_pick_t rfl rfl) rfl ?_
      refine vl_det (det_move rfl) rfl ?_
      refine vl_guard_f rfl rfl rfl rfl ?_
      refine vl_guard_f rfl rfl rfl rfl ?_
      refine vl_det (det_pick_t rfl rfl) rfl ?_
      exact vl_cut_end ⟨rfl, rfl, rfl, rfl, trivial⟩ (by first | rfl | exact bool_to_t (by first | omega | simp_all) | exact bool_to_f (by first | omega | simp_all) | exact bool_to (by first | omega | simp_all) | exact bool_to_b (by first | omega | simp_all))
  · skip
    refine vl_end [(0, _), (1, _), (2, _), (6, _), (29, _)] ⟨rfl, rfl, rfl, rfl, rfl, trivial⟩ ?_
    refine then_next ?_
    refine vc_decideU rfl (fun h29 => ?_) (fun h29 => ?_)
    · skip
      exfalso; exact hE h29
    · skip
      refine vc_skip ?_
      refine then_next ?_
      refine vc_seq ?_
      refine vc_region ?_
      refine vl_det (det_move rfl) rfl ?_
      refine vl_det (det_move rfl) rfl ?_
      refine vl_call co52 rfl (hrd _ (by first | (exact Bor.own (by repeat (first | exact List.Mem.head _ | apply List.Mem.tail))) | (repeat (first | assumption | apply Bor.cons)))) rfl ?_
      rintro _ _ ⟨A34, c34, rfl, hLL⟩
      obtain rfl := hLL.symm
      refine vl_det (det_move rfl) rfl ?_
      refine vl_det (det_extract rfl rfl) rfl ?_
      refine vl_det (det_extract rfl rfl) rfl ?_
      refine vl_det (det_extract rfl rfl) rfl ?_
      refine vl_det (det_assign rfl) rfl ?_
      refine vl_det (det_assign rfl) rfl ?_
      refine vl_det (det_assign rfl) rfl ?_
      refine vl_end [(1, _), (2, _), (6, _), (8, _), (9, _), (10, _)] ⟨rfl, rfl, rfl, rfl, rfl, rfl, trivial⟩ ?_
      refine then_next ?_
      refine vc_seq ?_
      refine vc_seq ?_
      refine vc_region ?_
      refine vl_det (det_move rfl) rfl ?_
      refine vl_det (det_neq rfl rfl) rfl ?_
      refine vl_end [(1, _), (2, _), (6, _), (8, _), (9, _), (10, _), (39, _)] ⟨rfl, rfl, rfl, rfl, rfl, rfl, rfl, trivial⟩ ?_
      refine then_next ?_
      refine vc_decideU rfl (fun h39 => ?_) (fun h39 => ?_)
      · skip
        rw [hR0 h39]
        refine vc_seq ?_
        refine vc_region ?_
        refine vl_det (det_build0 [.slice none 0 0, .slice none 0 0] (by kernel_rfl)) rfl ?_
        refine vl_det (det_move rfl) rfl ?_
        refine vl_eff0 (eff_store_whole 2 (by kernel_rfl) rfl rfl (by first | exact bv_one _ | exact strs_one _ | exact ints_one _ _ | (simp; done) | (simp [Value.oneCell']; done) | assumption) (by repeat (first | exact .hd | apply Sel.tl)) (by first | rfl | (simp; omega) | (simp [*]; done)) (by first | rfl | (simp; omega) | (simp [*]; done))) ?_
        rintro _ _ rfl
        refine vl_det (det_assign rfl) rfl ?_
        refine vl_end [(6, _), (7, _)] ⟨rfl, rfl, trivial⟩ ?_
        refine then_next ?_
        refine vc_ret ?_
        refine then_ret ?_
        refine ret_nil_row 37 1 none ?_
        refine ret_nil_row 9 1 none ?_
        refine ret_ct rfl rfl (by kernel_rfl) (by repeat (first | exact .hd | apply Sel.tl)) (by first | rfl | (simp; omega) | (simp [*]; done)) rfl (.cons (.cons (.skip (.skip (.refl _))))) ?_
        exact idxQ_err rfl
      · skip
        obtain rfl : er = 0 := by simpa using h39
        have hR1 := hR1 rfl
        have hR2 := hR2 rfl
        obtain ⟨e1, e2, _⟩ := hdo rfl
        have hTl := e1.2
        clear hR0 hdo hrd h39
        refine vc_skip ?_
        refine then_next ?_
        refine vc_seq ?_
        refine vc_nil_row 37 1 none ?_
        refine vc_region ?_
        refine vl_det (det_move rfl) rfl ?_
        refine vl_det (det_buildp [(0, _)] [.slice none 0 0, .slice none 0 0] [0] [_, _] rfl rfl (by kernel_rfl)) rfl ?_
        refine vl_eff (eff_alloc_z (zv := (.agg #[.slice none 0 0, .slice none 0 0])) (by kernel_rfl) rfl) rfl ?_
        rintro _ _ ⟨g11, rfl, rfl⟩
        refine vl_eff0 (eff_store_whole 2 (by kernel_rfl) rfl rfl (by first | exact bv_one _ | exact strs_one _ | exact ints_one _ _ | (simp; done) | (simp [Value.oneCell']; done) | assumption) (by repeat (first | exact .hd | apply Sel.tl)) (by first | rfl | (simp; omega) | (simp [*]; done)) (by first | rfl | (simp; omega) | (simp [*]; done))) ?_
        rintro _ _ rfl
        refine vl_end [(1, _), (2, _), (6, _), (8, _), (9, _), (11, _)] ⟨rfl, rfl, rfl, rfl, rfl, rfl, trivial⟩ ?_
        refine then_next ?_
        refine vc_seq ?_
        refine vc_seq ?_
        refine vc_region ?_
        refine vl_det (det_assign rfl) rfl ?_
        refine vl_end [(1, _), (2, _), (6, _), (8, _), (9, _), (11, _), (12, _)] ⟨rfl, rfl, rfl, rfl, rfl, rfl, rfl, trivial⟩ ?_
        refine then_next ?_
        refine vc_block ?_
        refine vc_loopJ (fun zf zL zm => ∃ (k : Nat) (q : Nat) (O : List Lst) (A8 : Option Addr) (c8 : Nat), (k ≤ T.length ∧ O.length = k ∧ q ≤ b.length ∧ lsR bound (T.length - k) (b.drop q) (O.map (·.2.2)) = G) ∧ T.length - k = zm ∧ Sub zf [(1, .int .i64 bound), (2, .slice A b.length c), (6, .pointer (some ⟨g6, 0, none⟩)), (8, .slice A34 T.length c34), (9, .int .i64 q), (11, .pointer (some ⟨g11, 0, none⟩)), (12, .int .i64 k)] ∧ Wk zL (.own 37 1 A8 O.length c8 (O.map lVal) :: .blk g11 29 [.slice A34 T.length c34, .slice A8 O.length c8] :: .own 9 1 A34 T.length c34 (strs T) :: .blk g6 29 [.slice none 0 0, .slice none 0 0] :: (O.map lRow ++ F))) _ ⟨0, t, [], none, 0, ⟨Nat.zero_le _, rfl, e2, hIL.symm⟩, rfl, ⟨(by first | rfl | exact int_to (by omega) | exact sl_to (by omega)), (by first | rfl | exact int_to (by omega) | exact sl_to (by omega)), (by first | rfl | exact int_to (by omega) | exact sl_to (by omega)), (by first | rfl | exact int_to (by omega) | exact sl_to (by omega)), (by first | rfl | exact int_to (by omega) | exact sl_to (by omega)), (by first | rfl | exact int_to (by omega) | exact sl_to (by omega)), (by first | rfl | exact int_to (by omega) | exact sl_to (by omega)), trivial⟩, (wu1 (wu0 (.refl _)))⟩ ?_
        rintro _ _ _ ⟨k, q, O, A8, c8, ⟨hk, hO, hq, hR⟩, rfl, hs, hp⟩
        refine vc_weaken _ hs (vc_wk hp ?_)
        clear hs hp
        refine vc_seq ?_
        refine vc_seq ?_
        refine vc_region ?_
        refine vl_det (det_move rfl) rfl ?_
        refine vl_det (det_move rfl) rfl ?_
        refine vl_det (det_len_sl Try.underlying26 rfl) rfl ?_
        refine vl_det (det_lss rfl rfl) rfl ?_
        refine vl_end [(1, _), (2, _), (6, _), (8, _), (9, _), (11, _), (12, _), (47, _)] ⟨rfl, rfl, rfl, rfl, rfl, rfl, rfl, rfl, trivial⟩ ?_
        refine then_next ?_
        refine vc_decideU rfl (fun h47 => ?_) (fun h47 => ?_)
        · skip
          obtain ⟨j, hj⟩ : ∃ j, T.length - k = j + 1 := ⟨T.length - k - 1, by omega⟩
          rw [hj, lsR_pos] at hR
          have hb2 : Bor B w0 (O.map lRow ++ F) 1 (.slice A b.length c) b.length (bv b) := hb.mono (List.sublist_append_right _ F)
          have hcut := hb2.cut hq
          rw [show (bv b).drop (q * 1) = bv (b.drop q) by rw [Nat.mul_one, bv_drop], show b.length - q = (b.drop q).length from (List.length_drop ..).symm] at hcut
          have hdl : (b.drop q).length = b.length - q := List.length_drop ..
          obtain ⟨r, hr⟩ : ∃ r, r = b.drop q := ⟨_, rfl⟩
          rw [← hr] at hR hcut hdl
          have hle := fun h => @efRd_le bound r h (by omega)
          have hrd := fun F' A' c' hb' => @rread13_d B w0 F' A' c' bound r hb' (by omega) (by omega) (by omega)
          obtain ⟨D, hD⟩ : ∃ D, D = efRd bound r := ⟨_, rfl⟩
          rw [← hD] at hR hle hrd
          clear hD
          obtain ⟨xs, x2, x3⟩ := D
          unfold Rd13 at hrd
          simp only at hR hle hrd
          refine vc_skip ?_
          refine then_next ?_
          refine vc_seq ?_
          refine vc_block ?_
          refine vc_seq ?_
          refine vc_region ?_
          refine vl_det (det_move rfl) rfl ?_
          refine vl_det (det_move rfl) rfl ?_
          refine vl_det (det_move rfl) rfl ?_
          refine vl_det (det_slice_lo (i := q) (size := 1) Try.underlying41 (by kernel_rfl) rfl rfl rfl hq) rfl ?_
          rw [← hdl]
          refine vl_call co53 rfl (hrd _ _ _ (by first | (exact Bor.own (by repeat (first | exact List.Mem.head _ | apply List.Mem.tail))) | (repeat (first | assumption | apply Bor.cons)))) rfl ?_
          rintro _ _ ⟨A55, c55, rfl, hLL⟩
          obtain rfl := hLL.symm
          refine vl_det (det_move rfl) rfl ?_
          refine vl_det (det_extract rfl rfl) rfl ?_
          refine vl_det (det_extract rfl rfl) rfl ?_
          refine vl_det (det_extract rfl rfl) rfl ?_
          refine vl_det (det_assign rfl) rfl ?_
          refine vl_det (det_assign rfl) rfl ?_
          refine vl_det (det_assign rfl) rfl ?_
          refine vl_end [(1, _), (2, _), (6, _), (8, _), (9, _), (11, _), (12, _), (13, _), (14, _), (15, _)] ⟨rfl, rfl, rfl, rfl, rfl, rfl, rfl, rfl, rfl, rfl, trivial⟩ ?_
          refine then_next ?_
          refine vc_seq ?_
          refine vc_seq ?_
          refine vc_region ?_
          refine vl_det (det_move rfl) rfl ?_
          refine vl_det (det_neq rfl rfl) rfl ?_
          refine vl_end [(1, _), (2, _), (6, _), (8, _), (9, _), (11, _), (12, _), (13, _), (14, _), (15, _), (60, _)] ⟨rfl, rfl, rfl, rfl, rfl, rfl, rfl, rfl, rfl, rfl, rfl, trivial⟩ ?_
          refine then_next ?_
          refine vc_decideU rfl (fun h60 => ?_) (fun h60 => ?_)
          · skip
            rw [if_pos h60] at hR
            rw [hR1 (by rw [← hR]; exact h60), ← hR]
            refine vc_seq ?_
            refine vc_region ?_
            refine vl_det (det_build0 [.slice none 0 0, .slice none 0 0] (by kernel_rfl)) rfl ?_
            refine vl_det (det_move rfl) rfl ?_
            refine vl_eff0 (eff_store_whole 2 (by kernel_rfl) rfl rfl (by first | exact bv_one _ | exact strs_one _ | exact ints_one _ _ | (simp; done) | (simp [Value.oneCell']; done) | assumption) (by repeat (first | exact .hd | apply Sel.tl)) (by first | rfl | (simp; omega) | (simp [*]; done)) (by first | rfl | (simp; omega) | (simp [*]; done))) ?_
            rintro _ _ rfl
            refine vl_det (det_assign rfl) rfl ?_
            refine vl_end [(6, _), (7, _)] ⟨rfl, rfl, trivial⟩ ?_
            refine then_next ?_
            refine vc_ret ?_
            refine then_ret ?_
            refine in_ret ?_
            refine then_ret ?_
            refine loop_ret ?_
            refine in_ret ?_
            refine then_ret ?_
            refine ret_nil_row 37 1 none ?_
            refine ret_nil_row 9 1 none ?_
            refine ret_ct rfl rfl (by kernel_rfl) (by repeat (first | exact .hd | apply Sel.tl)) (by first | rfl | (simp; omega) | (simp [*]; done)) rfl (.cons (.cons (.skip (.skip (.skip (.skip (.skip (wk_rows (.refl _) _)))))))) ?_
            exact idxQ_err rfl
          · skip
            obtain rfl : x3 = 0 := by simpa using h60
            rw [if_neg (by simp)] at hR
            have hle := hle rfl
            refine vc_skip ?_
            refine then_next ?_
            refine vc_seq ?_
            refine vc_seq ?_
            refine vc_region ?_
            refine vl_det (det_move rfl) rfl ?_
            refine vl_det (det_len_sl Try.underlying37 rfl) rfl ?_
            refine vl_det (det_eql rfl rfl) rfl ?_
            refine vl_end [(1, _), (2, _), (6, _), (8, _), (9, _), (11, _), (12, _), (13, _), (14, _), (65, _)] ⟨rfl, rfl, rfl, rfl, rfl, rfl, rfl, rfl, rfl, rfl, trivial⟩ ?_
            refine then_next ?_
            refine vc_decideU rfl (fun h65 => ?_) (fun h65 => ?_)
            · skip
              rw [if_pos (by omega)] at hR
              rw [hR1 (by rw [← hR]; decide), ← hR]
              refine vc_seq ?_
              refine vc_region ?_
              refine vl_det (det_build0 [.slice none 0 0, .slice none 0 0] (by kernel_rfl)) rfl ?_
              refine vl_eff0 (eff_store_whole 2 (by kernel_rfl) rfl rfl (by first | exact bv_one _ | exact strs_one _ | exact ints_one _ _ | (simp; done) | (simp [Value.oneCell']; done) | assumption) (by repeat (first | exact .hd | apply Sel.tl)) (by first | rfl | (simp; omega) | (simp [*]; done)) (by first | rfl | (simp; omega) | (simp [*]; done))) ?_
              rintro _ _ rfl
              refine vl_det (det_assign rfl) rfl ?_
              refine vl_end [(6, _), (7, _)] ⟨rfl, rfl, trivial⟩ ?_
              refine then_next ?_
              refine vc_ret ?_
              refine then_ret ?_
              refine in_ret ?_
              refine then_ret ?_
              refine loop_ret ?_
              refine in_ret ?_
              refine then_ret ?_
              refine ret_nil_row 37 1 none ?_
              refine ret_nil_row 9 1 none ?_
              refine ret_ct rfl rfl (by kernel_rfl) (by repeat (first | exact .hd | apply Sel.tl)) (by first | rfl | (simp; omega) | (simp [*]; done)) rfl (.cons (.cons (.skip (.skip (.skip (.skip (.skip (wk_rows (.refl _) _)))))))) ?_
              exact idxQ_err rfl
            · skip
              rw [if_neg (by omega)] at hR
              have hel : O.length + 1 = (O ++ [((A55, c55, xs) : Lst)]).length := by simp
              refine vc_skip ?_
              refine then_next ?_
              refine vc_seq ?_
              refine vc_region ?_
              refine vl_det (det_fieldAddr_ Try.underlying29 rfl (by kernel_rfl) rfl rfl) rfl ?_
              refine vl_det (det_load_blk (by kernel_rfl) rfl (by repeat (first | exact .hd | apply Sel.tl)) rfl) rfl ?_
              refine vl_det (det_move rfl) rfl ?_
              refine vl_push slT27 rfl rfl rfl rfl rfl (fun _ => rfl) (by repeat (first | exact .hd | apply Sel.tl)) (by omega) (by omega) ?_
              intro _ A71 c71
              refine vl_det (det_fieldAddr_ Try.underlying29 rfl (by kernel_rfl) rfl rfl) rfl ?_
              refine vl_eff0 (eff_store (by kernel_rfl) rfl rfl rfl (by repeat (first | exact .hd | apply Sel.tl)) (by simp)) ?_
              rintro _ _ rfl
              refine vl_end [(1, _), (2, _), (6, _), (8, _), (9, _), (11, _), (12, _), (14, _)] ⟨rfl, rfl, rfl, rfl, rfl, rfl, rfl, rfl, trivial⟩ ?_
              refine then_next ?_
              refine vc_region ?_
              refine vl_det (det_move rfl) rfl ?_
              refine vl_det (det_move rfl) rfl ?_
              refine vl_det (det_add rfl rfl (w_i64 (by omega) (by omega))) rfl ?_
              refine vl_det (det_assign rfl) rfl ?_
              refine vl_end [(1, _), (2, _), (6, _), (8, _), (9, _), (11, _), (12, _)] ⟨rfl, rfl, rfl, rfl, rfl, rfl, rfl, trivial⟩ ?_
              refine in_normal ?_
              refine then_next ?_
              refine vc_region ?_
              refine vl_det (det_move rfl) rfl ?_
              refine vl_det (det_add rfl rfl (w_i64 (by omega) (by omega))) rfl ?_
              refine vl_det (det_assign rfl) rfl ?_
              refine vl_end [(1, _), (2, _), (6, _), (8, _), (9, _), (11, _), (12, _)] ⟨rfl, rfl, rfl, rfl, rfl, rfl, rfl, trivial⟩ ?_
              refine in_loop_ ⟨_, by omega, k + 1, q + x2, O ++ [(A55, c55, xs)], A71, c71, ⟨by omega, by simp [hO], by omega, by rw [show T.length - (k + 1) = j by omega, ← List.drop_drop, ← hr]; simpa using hR⟩, rfl, ⟨(by first | rfl | exact int_to (by omega) | exact sl_to (by omega)), (by first | rfl | exact int_to (by omega) | exact sl_to (by omega)), (by first | rfl | exact int_to (by omega) | exact sl_to (by omega)), (by first | rfl | exact int_to (by omega) | exact sl_to (by omega)), (by first | rfl | exact int_to (by omega) | exact sl_to (by omega)), (by first | rfl | exact int_to (by omega) | exact sl_to (by omega)), (by first | rfl | exact int_to (by omega) | exact sl_to (by omega)), trivial⟩, .swap (wk_own hel (by simp) (.swap (wk_blk (by simp) (.swap (.cons (.swap (.cons (wk_lrow (e := (A55, c55, xs)) (O := O)))))))))⟩
        · skip
          rw [show T.length - k = 0 by omega, lsR] at hR
          have hdl : (b.drop q).length = b.length - q := List.length_drop ..
          refine vc_exit ?_
          refine then_exit ?_
          refine loop_exit ?_
          refine in_eq ?_
          refine then_next ?_
          refine vc_seq ?_
          refine vc_seq ?_
          refine vc_region ?_
          refine vl_det (det_move rfl) rfl ?_
          refine vl_det (det_move rfl) rfl ?_
          refine vl_det (det_len_sl Try.underlying41 rfl) rfl ?_
          refine vl_det (det_lss rfl rfl) rfl ?_
          refine vl_end [(6, _), (11, _), (79, _)] ⟨rfl, rfl, rfl, trivial⟩ ?_
          refine then_next ?_
          refine vc_decideU rfl (fun h79 => ?_) (fun h79 => ?_)
          · skip
            rw [if_pos (by omega)] at hR
            rw [hR1 (by rw [← hR]; decide), ← hR]
            refine vc_seq ?_
            refine vc_region ?_
            refine vl_det (det_build0 [.slice none 0 0, .slice none 0 0] (by kernel_rfl)) rfl ?_
            refine vl_eff0 (eff_store_whole 2 (by kernel_rfl) rfl rfl (by first | exact bv_one _ | exact strs_one _ | exact ints_one _ _ | (simp; done) | (simp [Value.oneCell']; done) | assumption) (by repeat (first | exact .hd | apply Sel.tl)) (by first | rfl | (simp; omega) | (simp [*]; done)) (by first | rfl | (simp; omega) | (simp [*]; done))) ?_
            rintro _ _ rfl
            refine vl_det (det_assign rfl) rfl ?_
            refine vl_end [(6, _), (7, _)] ⟨rfl, rfl, trivial⟩ ?_
            refine then_next ?_
            refine vc_ret ?_
            refine then_ret ?_
            refine ret_nil_row 37 1 none ?_
            refine ret_nil_row 9 1 none ?_
            refine ret_ct rfl rfl (by kernel_rfl) (by repeat (first | exact .hd | apply Sel.tl)) (by first | rfl | (simp; omega) | (simp [*]; done)) rfl (.cons (.cons (.skip (.skip (.skip (.skip (wk_rows (.refl _) _))))))) ?_
            exact idxQ_err rfl
          · skip
            rw [if_neg (by omega)] at hR
            rw [hR2 (by rw [← hR]), ← hR]
            refine vc_skip ?_
            refine then_next ?_
            refine vc_seq ?_
            refine vc_region ?_
            refine vl_det (det_load_whole 2 (by kernel_rfl) rfl (by repeat (first | exact .hd | apply Sel.tl)) (by first | rfl | (simp; omega) | (simp [*]; done))) rfl ?_
            refine vl_eff0 (eff_store_whole 2 (by kernel_rfl) rfl rfl (by first | exact bv_one _ | exact strs_one _ | exact ints_one _ _ | (simp; done) | (simp [Value.oneCell']; done) | assumption) (by repeat (first | exact .hd | apply Sel.tl)) (by first | rfl | (simp; omega) | (simp [*]; done)) (by first | rfl | (simp; omega) | (simp [*]; done))) ?_
            rintro _ _ rfl
            refine vl_det (det_assign rfl) rfl ?_
            refine vl_end [(6, _), (7, _)] ⟨rfl, rfl, trivial⟩ ?_
            refine then_next ?_
            refine vc_ret ?_
            refine ret_ct rfl rfl (by kernel_rfl) (by repeat (first | exact .hd | apply Sel.tl)) (by first | rfl | (simp; omega) | (simp [*]; done)) rfl (.swap (.skip (.swap (.cons (.cons (.skip (.refl _))))))) ?_
            exact ⟨A34, c34, A8, c8, O, rfl, rfl, rfl⟩
theorem rread18_d {b : List UInt8} (hb : Bor B w0 F 1 (.slice A b.length c) b.length (bv b)) (hbl : b.length ≤ 100000) :
    Does Try.prog B w0 25 [.int .i64 size, .int .i64 bound, .slice A b.length c] F (IdxQ (idxRd size bound b) F) := by
  by_cases hE : ((size < 1 ∨ 64 < size) ∨ bound < 0) ∨ 20000 < bound
  · exact rread18_1 hE
  · exact rread18_2 hE hb hbl
theorem pread_d {b : List UInt8} (hb : Bor B w0 F 1 (.slice A b.length c) b.length (bv b)) (hbl : b.length ≤ 100000) :
    Does Try.prog B w0 24 [.int .i64 size, .int .i64 bound, .slice A b.length c] F (IdxQ (idxRd size bound b) F) := by
  by_cases hE : bound < 0 ∨ 20000 < bound
  · exact pread_1 hE
  · by_cases he : (dictR size b).2.2 = 0
    · exact pread_3 hE hb hbl he
    · exact pread_2 hE hb hbl he
theorem idxRd_sz {b : List UInt8} (hs : size ≤ 9223372036854775807) : (idxRd size bound b).1.length ≤ 1048576 ∧ (idxRd size bound b).2.1.length ≤ 1048576 ∧ ∀ x ∈ (idxRd size bound b).2.1, x.length ≤ 20000 := by
  by_cases h : (idxRd size bound b).2.2 = 0
  · obtain ⟨sz, bn, rfl, rfl, h1, h2, h3, h4, h5, h6, _⟩ := idx_one h hs
    have h7 := h4.2
    exact ⟨h7, by omega, fun x hx => Nat.le_trans (h6 x hx).2.len h3⟩
  · have e : (idxRd size bound b).1 = [] ∧ (idxRd size bound b).2.1 = [] := by
      unfold idxRd at h ⊢
      split
      · exact ⟨rfl, rfl⟩
      · split
        · exact ⟨rfl, rfl⟩
        · split
          · exact ⟨rfl, rfl⟩
          · rename_i q1 q2 q3
            rw [if_neg q1, if_neg q2, if_neg q3] at h
            exact absurd rfl h
    rw [e.1, e.2]
    exact ⟨by simp, by simp, by simp⟩
theorem ids_le {LL : List Lst} {Q : List (List Nat)} {n : Nat} (h : LL.map (·.2.2) = Q) (hQ : ∀ x ∈ Q, x.length ≤ n) : ∀ e ∈ toI LL, e.2.2.length ≤ n := fun e he => by
  unfold toI at he
  obtain ⟨a, ha, rfl⟩ := List.mem_map.1 he
  have : a.2.2 ∈ Q := h ▸ List.mem_map_of_mem ha
  have := hQ _ this
  simp; omega
theorem mid3 {a b c d : Ch} {R : List Ch} (X : List Ch) : (a :: b :: c :: (X ++ d :: R)).Perm (d :: a :: b :: c :: (X ++ R)) :=
  (List.perm_middle (a := d) (l₁ := a :: b :: c :: X) (l₂ := R))
theorem wk_drop : ∀ M : List Ch, Wk M []
  | [] => .refl _
  | _ :: R => .skip (wk_drop R)
end Go.Proofs.Ytpamjobiohbibaa
