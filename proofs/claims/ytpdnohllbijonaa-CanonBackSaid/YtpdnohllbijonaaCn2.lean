/-
  canon.Codes, by frames. No condition.
-/
import Derived.Test.YtpdnohllbijonaaCn1
import Derived.Test.YtpdnohllbijonaaCanonCode
namespace Go.Proofs.Ytpdnohllbijonaa
open Go.RowKit
set_option linter.unusedVariables false
variable {B : Nat} {w0 : World} {F : List Ch} {A : Option Addr} {c : Nat}
theorem codes_bad (l : List UInt8) (hb : Bor B w0 F 1 (.slice A l.length c) l.length (bv l)) (hg : ¬ Good l) : Does Try.prog B w0 13 [.slice A l.length c] F (fun r L => r = .tuple #[.slice none 0 0, .int .i64 7] ∧ L = F) := by
  have hc := check_d l hb
  rw [chk_bad hg] at hc
  refine fn_walk Try.func13 63 rfl rfl rfl [(0, .slice A l.length c)] ⟨⟨rfl, rfl⟩, trivial⟩ ?_
  refine vc_seq ?_
  refine vc_region ?_
  refine vl_det (det_assign rfl) rfl ?_
  refine vl_det (det_assign rfl) rfl ?_
  refine vl_end [(0, _)] ⟨rfl, trivial⟩ ?_
  refine then_next ?_
  refine vc_seq ?_
  refine vc_seq ?_
  refine vc_region ?_
  refine vl_det (det_move rfl) rfl ?_
  refine vl_call co11 rfl (hc) rfl ?_
  rintro _ _ ⟨rfl, hLL⟩
  obtain rfl := hLL.symm
  refine vl_det (det_assign rfl) rfl ?_
  refine vl_end [(0, _), (4, _)] ⟨rfl, rfl, trivial⟩ ?_
  refine then_next ?_
  refine vc_seq ?_
  refine vc_region ?_
  refine vl_det (det_move rfl) rfl ?_
  refine vl_det (det_neq rfl rfl) rfl ?_
  refine vl_end [(0, _), (4, _), (15, _)] ⟨rfl, rfl, rfl, trivial⟩ ?_
  refine then_next ?_
  refine vc_decideU rfl (fun h15 => ?_) (fun h15 => ?_)
  · skip
    refine vc_seq ?_
    refine vc_region ?_
    refine vl_det (det_move rfl) rfl ?_
    refine vl_det (det_assign rfl) rfl ?_
    refine vl_det (det_assign rfl) rfl ?_
    refine vl_end [(2, _), (3, _)] ⟨rfl, rfl, trivial⟩ ?_
    refine then_next ?_
    refine vc_ret ?_
    refine then_ret ?_
    refine ret2 rfl rfl rfl ?_
    exact ⟨rfl, rfl⟩
  · skip
    exfalso; omega
theorem shl1 {x : Int} (h : 0 ≤ x ∧ x ≤ 100000000) : IntKind.i64.wrap (x * 2 ^ min (1 : Int).toNat IntKind.i64.bits) = x * 2 := by
  have e : min (1 : Int).toNat IntKind.i64.bits = 1 := by decide
  rw [e]
  exact w_i64 (by omega) (by omega)
theorem code_at {l : List UInt8} {s : Nat} {x : Int} (h : ¬ (l.getD s 0).toNat = 0) (hx : x = (place l (l.getD s 0).toNat s : Int)) : IntKind.u16.wrap x = code l s := by
  unfold code
  rw [if_neg h, hx]
theorem codes_d (l : List UInt8) (hb : Bor B w0 F 1 (.slice A l.length c) l.length (bv l)) (hg : Good l) : Does Try.prog B w0 13 [.slice A l.length c] F (fun r L => ∃ A' c', r = .tuple #[.slice A' l.length c', .int .i64 0] ∧ L = .own 30 1 A' l.length c' (ints .u16 (codesL l)) :: F) := by
  have hc := check_d l hb
  rw [chk_good hg] at hc
  have hf := hg.1
  have hfl := hf.1
  have hfe := few_cnt0 hf
  have hf1 := hfe.1
  refine fn_walk Try.func13 63 rfl rfl rfl [(0, .slice A l.length c)] ⟨⟨rfl, rfl⟩, trivial⟩ ?_
  refine vc_seq ?_
  refine vc_region ?_
  refine vl_det (det_assign rfl) rfl ?_
  refine vl_det (det_assign rfl) rfl ?_
  refine vl_end [(0, _)] ⟨rfl, trivial⟩ ?_
  refine then_next ?_
  refine vc_seq ?_
  refine vc_seq ?_
  refine vc_region ?_
  refine vl_det (det_move rfl) rfl ?_
  refine vl_call co11 rfl (hc) rfl ?_
  rintro _ _ ⟨rfl, hLL⟩
  obtain rfl := hLL.symm
  refine vl_det (det_assign rfl) rfl ?_
  refine vl_end [(0, _), (4, _)] ⟨rfl, rfl, trivial⟩ ?_
  refine then_next ?_
  refine vc_seq ?_
  refine vc_region ?_
  refine vl_det (det_move rfl) rfl ?_
  refine vl_det (det_neq rfl rfl) rfl ?_
  refine vl_end [(0, _), (4, _), (15, _)] ⟨rfl, rfl, rfl, trivial⟩ ?_
  refine then_next ?_
  refine vc_decideU rfl (fun h15 => ?_) (fun h15 => ?_)
  · skip
    exfalso; omega
  · skip
    refine vc_skip ?_
    refine then_next ?_
    refine vc_seq ?_
    refine vc_region ?_
    refine vl_det (det_move rfl) rfl ?_
    refine vl_call co30 rfl (count_yes l (by first | (exact Bor.own (by repeat (first | exact List.Mem.head _ | apply List.Mem.tail))) | (repeat (first | assumption | apply Bor.cons))) hf) rfl ?_
    rintro _ _ ⟨rfl, hLL⟩
    obtain rfl := hLL.symm
    refine vl_det (det_move rfl) rfl ?_
    refine vl_det (det_extract rfl rfl) rfl ?_
    refine vl_det (det_extract rfl rfl) rfl ?_
    refine vl_eff (eff_alloc_z (zv := (.agg #[.int .i64 0, .int .i64 0, .int .i64 0, .int .i64 0, .int .i64 0, .int .i64 0, .int .i64 0, .int .i64 0, .int .i64 0, .int .i64 0, .int .i64 0, .int .i64 0, .int .i64 0, .int .i64 0, .int .i64 0, .int .i64 0])) (by kernel_rfl) rfl) rfl ?_
    rintro _ _ ⟨g5, rfl, rfl⟩
    refine vl_eff0 (eff_store_whole 16 (by kernel_rfl) rfl rfl (by first | exact bv_one _ | exact strs_one _ | exact ints_one _ _ | (simp; done) | (simp [Value.oneCell']; done) | assumption) (by repeat (first | exact .hd | apply Sel.tl)) (by first | rfl | (simp; omega) | (simp [*]; done)) (by first | rfl | (simp; omega) | (simp [*]; done))) ?_
    rintro _ _ rfl
    refine vl_det (det_assign rfl) rfl ?_
    refine vl_end [(0, _), (5, _)] ⟨rfl, rfl, trivial⟩ ?_
    refine then_next ?_
    refine vc_seq ?_
    refine vc_region ?_
    refine vl_eff (eff_alloc_z (zv := (.agg #[.int .i64 0, .int .i64 0, .int .i64 0, .int .i64 0, .int .i64 0, .int .i64 0, .int .i64 0, .int .i64 0, .int .i64 0, .int .i64 0, .int .i64 0, .int .i64 0, .int .i64 0, .int .i64 0, .int .i64 0, .int .i64 0, .int .i64 0])) (by kernel_rfl) rfl) rfl ?_
    rintro _ _ ⟨g7, rfl, rfl⟩
    refine vl_end [(0, _), (5, _), (7, _)] ⟨rfl, rfl, rfl, trivial⟩ ?_
    refine then_next ?_
    refine vc_seq ?_
    refine vc_seq ?_
    refine vc_region ?_
    refine vl_det (det_assign rfl) rfl ?_
    refine vl_end [(0, _), (5, _), (7, _), (8, _)] ⟨rfl, rfl, rfl, rfl, trivial⟩ ?_
    refine then_next ?_
    refine vc_block ?_
    refine vc_loopJ (fun zf zL zm => ∃ (k : Nat), (1 ≤ k ∧ k ≤ 16) ∧ 16 - k = zm ∧ Sub zf [(0, .slice A l.length c), (5, .pointer (some ⟨g5, 0, none⟩)), (7, .pointer (some ⟨g7, 0, none⟩)), (8, .int .i64 k)] ∧ Wk zL (.blk g7 65 (ints .i64 (fstA l k)) :: .blk g5 58 (ints .i64 (cnt0 l)) :: F)) _ ⟨1, ⟨by omega, by omega⟩, rfl, ⟨(by first | rfl | exact int_to (by omega)), (by first | rfl | exact int_to (by omega)), (by first | rfl | exact int_to (by omega)), (by first | rfl | exact int_to (by omega)), trivial⟩, wk_blk (by rw [← fstA_one]; rfl) (.refl _)⟩ ?_
    rintro _ _ _ ⟨k, ⟨hk1, hk⟩, rfl, hs, hp⟩
    refine vc_weaken _ hs (vc_wk hp ?_)
    clear hs hp
    refine vc_seq ?_
    refine vc_seq ?_
    refine vc_region ?_
    refine vl_det (det_move rfl) rfl ?_
    refine vl_det (det_lss rfl rfl) rfl ?_
    refine vl_end [(0, _), (5, _), (7, _), (8, _), (23, _)] ⟨rfl, rfl, rfl, rfl, rfl, trivial⟩ ?_
    refine then_next ?_
    refine vc_decideU rfl (fun h23 => ?_) (fun h23 => ?_)
    · skip
      have e1 := fstA_get l (Nat.le_refl k) (by omega)
      have e2 := cnt0_get l (k := k) (by omega) (by omega)
      have e3 := fst_small hfl hk
      have e4 := num_le l k
      have e5 := fst_succ l hk1
      refine vc_skip ?_
      refine then_next ?_
      refine vc_seq ?_
      refine vc_block ?_
      refine vh_region (S := .blk g5 58 (ints .i64 (cnt0 l)) :: F) (by kernel_rfl) (by repeat (first | exact List.Sublist.refl _ | exact List.nil_sublist _ | apply List.Sublist.cons_cons | apply List.Sublist.cons)) ?_
      refine vh_take 0 rfl (by kernel_rfl) (by kernel_rfl) (by kernel_rfl) (det_move rfl) rfl ?_
      refine vh_take 1 rfl (by kernel_rfl) (by kernel_rfl) (by kernel_rfl) (det_add rfl rfl (w_i64 (by omega) (by omega))) rfl ?_
      refine vh_take 2 rfl (by kernel_rfl) (by kernel_rfl) (by kernel_rfl) (det_move rfl) rfl ?_
      refine vh_take 3 rfl (by kernel_rfl) (by kernel_rfl) (by kernel_rfl) (det_indexAddr_arr Try.underlying65 (by kernel_rfl) rfl rfl rfl (by omega)) rfl ?_
      refine vh_take 5 rfl (by kernel_rfl) (by kernel_rfl) (by kernel_rfl) (det_move rfl) rfl ?_
      refine vh_take 6 rfl (by kernel_rfl) (by kernel_rfl) (by kernel_rfl) (det_indexAddr_arr Try.underlying58 (by kernel_rfl) rfl rfl rfl (by omega)) rfl ?_
      refine vh_take 7 rfl (by kernel_rfl) (by kernel_rfl) (by kernel_rfl) (det_load_arr (by kernel_rfl) rfl (by repeat (first | exact .hd | apply Sel.tl)) (by first | omega | (simp; omega))) rfl ?_
      refine vh_one 4 (by kernel_rfl) ?_
      refine st_det rfl .no (det_load_arr (by kernel_rfl) rfl (by repeat (first | exact .hd | apply Sel.tl)) (by first | omega | (simp; omega))) rfl (by repeat (first | exact List.Sublist.refl _ | exact List.nil_sublist _ | apply List.Sublist.cons_cons | apply List.Sublist.cons)) ?_
      refine vh_take 8 rfl (by kernel_rfl) (by kernel_rfl) (by kernel_rfl) (det_add rfl rfl (w_i64 (by omega) (by omega))) rfl ?_
      refine vh_take 9 rfl (by kernel_rfl) (by kernel_rfl) (by kernel_rfl) (det_shl rfl rfl (by omega) (shl1 (by omega))) rfl ?_
      refine vh_take 10 rfl (by kernel_rfl) (by kernel_rfl) (by kernel_rfl) (det_indexAddr_arr (i := k + 1) Try.underlying65 (by kernel_rfl) rfl rfl rfl (by omega)) rfl ?_
      refine vh_one 11 (by kernel_rfl) ?_
      refine st_eff0 rfl .no (eff_store_arr (by kernel_rfl) rfl rfl (by repeat (first | exact .hd | apply Sel.tl)) (by first | omega | (simp; omega))) (by rintro _ _ rfl; exact (by repeat (first | exact List.Sublist.refl _ | exact List.nil_sublist _ | apply List.Sublist.cons_cons | apply List.Sublist.cons))) ?_
      rintro _ _ rfl
      refine vh_done [(0, _), (5, _), (7, _), (8, _)] ⟨rfl, rfl, rfl, rfl, trivial⟩ (by kernel_rfl) ?_
      refine in_normal ?_
      refine then_next ?_
      refine vc_region ?_
      refine vl_det (det_move rfl) rfl ?_
      refine vl_det (det_add rfl rfl (w_i64 (by omega) (by omega))) rfl ?_
      refine vl_det (det_assign rfl) rfl ?_
      refine vl_end [(0, _), (5, _), (7, _), (8, _)] ⟨rfl, rfl, rfl, rfl, trivial⟩ ?_
      refine in_loop_ ⟨_, by omega, k + 1, ⟨by omega, by omega⟩, rfl, ⟨(by first | rfl | exact int_to (by omega)), (by first | rfl | exact int_to (by omega)), (by first | rfl | exact int_to (by omega)), (by first | rfl | exact int_to (by omega)), trivial⟩, wk_blk (by rw [← fstA_step, e5, e1, e2]; push_cast; rfl) (.refl _)⟩
    · skip
      refine vc_exit ?_
      refine then_exit ?_
      refine loop_exit ?_
      refine in_eq ?_
      refine then_next ?_
      refine vc_seq ?_
      refine vc_region ?_
      refine vl_det (det_move rfl) rfl ?_
      refine vl_det (det_len_sl Try.underlying22 rfl) rfl ?_
      refine vl_eff (eff_make slT27 rfl rfl rfl rfl rfl (by omega) (by omega) (by omega)) rfl ?_
      rintro _ _ ⟨A39, rfl, rfl⟩
      refine vl_det (det_assign rfl) rfl ?_
      refine vl_end [(0, _), (7, _), (9, _)] ⟨rfl, rfl, rfl, trivial⟩ ?_
      refine then_next ?_
      refine vc_seq ?_
      refine vc_seq ?_
      refine vc_region ?_
      refine vl_det (det_move rfl) rfl ?_
      refine vl_det (det_len_sl Try.underlying22 rfl) rfl ?_
      refine vl_det (det_move rfl) rfl ?_
      refine vl_end [(7, _), (9, _), (40, _), (41, _), (42, _)] ⟨rfl, rfl, rfl, rfl, rfl, trivial⟩ ?_
      refine then_next ?_
      refine vc_block ?_
      have hk16 : k = 16 := by omega
      subst hk16
      refine vc_loopJ (fun zf zL zm => ∃ (s : Nat) (A9 : Option Addr), (s ≤ l.length) ∧ l.length - s = zm ∧ Sub zf [(7, .pointer (some ⟨g7, 0, none⟩)), (9, .slice A9 l.length l.length), (40, .slice A l.length c), (41, .int .i64 l.length), (42, .int .i64 s)] ∧ Wk zL (.own 30 1 A9 l.length l.length (ints .u16 (outA l s)) :: .blk g7 65 (ints .i64 (fstB l s)) :: .blk g5 58 (ints .i64 (cnt0 l)) :: F)) _ ⟨0, A39, Nat.zero_le _, rfl, ⟨(by first | rfl | exact int_to (by omega)), (by first | rfl | exact int_to (by omega)), (by first | rfl | exact int_to (by omega)), (by first | rfl | exact int_to (by omega)), (by first | rfl | exact int_to (by omega)), trivial⟩, wk_own rfl (by rw [outA_zero]; simp [ints]) (wk_blk (by rw [fstB_zero]) (.refl _))⟩ ?_
      rintro _ _ _ ⟨s, A9, hs, rfl, hs, hp⟩
      refine vc_weaken _ hs (vc_wk hp ?_)
      clear hs hp
      refine vc_seq ?_
      refine vc_region ?_
      refine vl_det (det_lss rfl rfl) rfl ?_
      refine vl_end [(7, _), (9, _), (40, _), (41, _), (42, _), (43, _)] ⟨rfl, rfl, rfl, rfl, rfl, rfl, trivial⟩ ?_
      refine then_next ?_
      refine vc_seq ?_
      refine vc_decideU rfl (fun h43 => ?_) (fun h43 => ?_)
      · skip
        have hu := hf.2 _ (getD_mem (k := s) (by omega) 0)
        have hp := place_small hfl (k := (l.getD s 0).toNat) (by omega) s
        refine vc_skip ?_
        refine then_next ?_
        refine vc_seq ?_
        refine vc_block ?_
        refine vc_seq ?_
        refine vc_region ?_
        refine vl_det (det_move rfl) rfl ?_
        refine vl_det (det_indexAddr Try.underlying22 (by kernel_rfl) rfl rfl rfl (by omega) (by first | (exact Bor.own (by repeat (first | exact List.Mem.head _ | apply List.Mem.tail))) | (repeat (first | assumption | apply Bor.cons)))) rfl ?_
        refine vl_det (det_load_u8 (by kernel_rfl) rfl (by first | (exact Bor.own (by repeat (first | exact List.Mem.head _ | apply List.Mem.tail))) | (repeat (first | assumption | apply Bor.cons))) (by omega)) rfl ?_
        refine vl_det (det_assign rfl) rfl ?_
        refine vl_det (det_assign rfl) rfl ?_
        refine vl_end [(7, _), (9, _), (10, _), (11, _), (40, _), (41, _), (42, _)] ⟨rfl, rfl, rfl, rfl, rfl, rfl, rfl, trivial⟩ ?_
        refine then_next ?_
        refine vc_seq ?_
        refine vc_region ?_
        refine vl_det (det_move rfl) rfl ?_
        refine vl_det (det_gtr rfl rfl) rfl ?_
        refine vl_end [(7, _), (9, _), (10, _), (11, _), (40, _), (41, _), (42, _), (48, _)] ⟨rfl, rfl, rfl, rfl, rfl, rfl, rfl, rfl, trivial⟩ ?_
        refine then_next ?_
        refine vc_decideU rfl (fun h48 => ?_) (fun h48 => ?_)
        · skip
          have hfB := fstB_length l s
          have eB := fstB_get l (s := s) (j := (l.getD s 0).toNat) (by omega) (by omega)
          refine vc_seq ?_
          refine vc_region ?_
          refine vl_det (det_move rfl) rfl ?_
          refine vl_det (det_move rfl) rfl ?_
          refine vl_det (det_move rfl) rfl ?_
          refine vl_det (det_indexAddr_arr (i := (l.getD s 0).toNat) Try.underlying65 (by kernel_rfl) rfl rfl rfl (by omega)) rfl ?_
          refine vl_det (det_load_arr (by kernel_rfl) rfl (by repeat (first | exact .hd | apply Sel.tl)) (by first | omega | (simp; omega))) rfl ?_
          refine vl_det (det_conv Try.underlying3 Try.underlying30 rfl (code_at (s := s) (by omega) eB)) rfl ?_
          refine vl_det (det_indexAddr Try.underlying27 (by kernel_rfl) rfl rfl rfl (by omega) (by first | (exact Bor.own (by repeat (first | exact List.Mem.head _ | apply List.Mem.tail))) | (repeat (first | assumption | apply Bor.cons)))) rfl ?_
          refine vl_eff0 (eff_store_row (by kernel_rfl) rfl rfl rfl (by repeat (first | exact .hd | apply Sel.tl)) (by rw [ints_length, outA_length l hs]; omega)) ?_
          rintro _ _ rfl
          refine vl_end [(7, _), (9, _), (11, _), (40, _), (41, _), (42, _)] ⟨rfl, rfl, rfl, rfl, rfl, rfl, trivial⟩ ?_
          refine then_next ?_
          refine vc_region ?_
          refine vl_det (det_move rfl) rfl ?_
          refine vl_det (det_indexAddr_arr (i := (l.getD s 0).toNat) Try.underlying65 (by kernel_rfl) rfl rfl rfl (by omega)) rfl ?_
          refine vl_det (det_load_arr (by kernel_rfl) rfl (by repeat (first | exact .hd | apply Sel.tl)) (by first | omega | (simp; omega))) rfl ?_
          refine vl_det (det_add rfl rfl (w_i64 (by omega) (by omega))) rfl ?_
          refine vl_det (det_indexAddr_arr (i := (l.getD s 0).toNat) Try.underlying65 (by kernel_rfl) rfl rfl rfl (by omega)) rfl ?_
          refine vl_eff0 (eff_store_arr (by kernel_rfl) rfl rfl (by repeat (first | exact .hd | apply Sel.tl)) (by first | omega | (simp; omega))) ?_
          rintro _ _ rfl
          refine vl_end [(7, _), (9, _), (40, _), (41, _), (42, _)] ⟨rfl, rfl, rfl, rfl, rfl, trivial⟩ ?_
          refine in_normal ?_
          refine then_next ?_
          refine vc_region ?_
          refine vl_det (det_add rfl rfl (w_i64 (by omega) (by omega))) rfl ?_
          refine vl_det (det_move rfl) rfl ?_
          refine vl_end [(7, _), (9, _), (40, _), (41, _), (42, _)] ⟨rfl, rfl, rfl, rfl, rfl, trivial⟩ ?_
          refine in_loop_ ⟨_, by omega, s + 1, A9, by omega, rfl, ⟨(by first | rfl | exact int_to (by omega)), (by first | rfl | exact int_to (by omega)), (by first | rfl | exact int_to (by omega)), (by first | rfl | exact int_to (by omega)), (by first | rfl | exact int_to (by omega)), trivial⟩, wk_own rfl (by rw [← outA_step (by omega), Nat.mul_one]; simp [ints, List.map_set]) (wk_blk (by rw [← fstB_step (by omega) (by omega) (by omega), eB]) (.refl _))⟩
        · skip
          refine vc_skip ?_
          refine in_normal ?_
          refine then_next ?_
          refine vc_region ?_
          refine vl_det (det_add rfl rfl (w_i64 (by omega) (by omega))) rfl ?_
          refine vl_det (det_move rfl) rfl ?_
          refine vl_end [(7, _), (9, _), (40, _), (41, _), (42, _)] ⟨rfl, rfl, rfl, rfl, rfl, trivial⟩ ?_
          refine in_loop_ ⟨_, by omega, s + 1, A9, by omega, rfl, ⟨(by first | rfl | exact int_to (by omega)), (by first | rfl | exact int_to (by omega)), (by first | rfl | exact int_to (by omega)), (by first | rfl | exact int_to (by omega)), (by first | rfl | exact int_to (by omega)), trivial⟩, wk_own rfl (by rw [← outA_keep (by omega) (by omega)]) (wk_blk (by rw [← fstB_keep (by omega) (by omega)]) (.refl _))⟩
      · skip
        refine vc_exit ?_
        refine then_exit ?_
        refine loop_exit ?_
        refine in_eq ?_
        refine then_next ?_
        refine vc_seq ?_
        refine vc_region ?_
        refine vl_det (det_move rfl) rfl ?_
        refine vl_det (det_assign rfl) rfl ?_
        refine vl_det (det_assign rfl) rfl ?_
        refine vl_end [(2, _), (3, _)] ⟨rfl, rfl, trivial⟩ ?_
        refine then_next ?_
        refine vc_ret ?_
        have hs' : s = l.length := by omega
        subst hs'
        refine ret_wk (wk_own rfl (by rw [outA_all]) (.skip (.skip (.refl _)))) ?_
        refine ret2 rfl rfl rfl ?_
        exact ⟨A9, _, rfl, rfl⟩
end Go.Proofs.Ytpdnohllbijonaa
