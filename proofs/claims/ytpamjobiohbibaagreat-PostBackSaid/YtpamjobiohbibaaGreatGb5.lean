/-
  Texts of one proof, joined: part 5. No condition.
-/
import Derived.Test.YtpamjobiohbibaaGreatGb4
namespace Go.Proofs.YtpamjobiohbibaaGreat
open Go.RowKit
set_option linter.unusedVariables false
set_option maxRecDepth 20000
variable {B : Nat} {w0 : World} {F : List Ch} {A A1 A2 : Option Addr} {n c c1 c2 g : Nat}
theorem drises_d {l : List Txt} (hb : Bor B w0 F 1 (.slice A l.length c) l.length (strs l)) (hl : l.length ≤ 1000000000000000) :
    Does Tryz.prog B w0 26 [.slice A l.length c] F (fun r L => r = .bool (decide (RisT l)) ∧ L = F) := by
  refine fn_walk Tryz.func26 21 rfl rfl rfl [(0, .slice A l.length c)] ⟨⟨rfl, rfl⟩, trivial⟩ ?_
  refine vc_seq ?_
  refine vc_region ?_
  refine vl_det (det_assign rfl) rfl ?_
  refine vl_end [(0, _)] ⟨rfl, trivial⟩ ?_
  refine then_next ?_
  refine vc_seq ?_
  refine vc_region ?_
  refine vl_det (det_assign rfl) rfl ?_
  refine vl_end [(0, _), (3, _)] ⟨rfl, rfl, trivial⟩ ?_
  refine then_next ?_
  refine vc_seq ?_
  refine vc_seq ?_
  refine vc_region ?_
  refine vl_det (det_move rfl) rfl ?_
  refine vl_det (det_len_sl Tryz.underlying22 rfl) rfl ?_
  refine vl_det (det_move rfl) rfl ?_
  refine vl_end [(0, _), (3, _), (6, _), (7, _), (8, _)] ⟨rfl, rfl, rfl, rfl, rfl, trivial⟩ ?_
  refine then_next ?_
  refine vc_block ?_
  refine vc_loopJ (fun zf zL zm => ∃ (k : Nat), (k ≤ l.length ∧ ∀ i, i < k → mayT (prvT l i) (l.getD i [])) ∧ l.length - k = zm ∧ Sub zf [(0, .slice A l.length c), (3, .string ⟨(prvT l k).toArray⟩), (6, .slice A l.length c), (7, .int .i64 l.length), (8, .int .i64 k)] ∧ Wk zL (F)) _ ⟨0, ⟨Nat.zero_le _, fun i h => absurd h (by omega)⟩, rfl, ⟨(by first | rfl | exact int_to (by omega) | exact sl_to (by omega)), (by first | rfl | exact int_to (by omega) | exact sl_to (by omega)), (by first | rfl | exact int_to (by omega) | exact sl_to (by omega)), (by first | rfl | exact int_to (by omega) | exact sl_to (by omega)), (by first | rfl | exact int_to (by omega) | exact sl_to (by omega)), trivial⟩, .refl _⟩ ?_
  rintro _ _ _ ⟨k, ⟨hk, hm⟩, rfl, hs, hp⟩
  refine vc_weaken _ hs (vc_wk hp ?_)
  clear hs hp
  refine vc_seq ?_
  refine vc_region ?_
  refine vl_det (det_lss rfl rfl) rfl ?_
  refine vl_end [(0, _), (3, _), (6, _), (7, _), (8, _), (9, _)] ⟨rfl, rfl, rfl, rfl, rfl, rfl, trivial⟩ ?_
  refine then_next ?_
  refine vc_seq ?_
  refine vc_decideU rfl (fun h9 => ?_) (fun h9 => ?_)
  · skip
    refine vc_skip ?_
    refine then_next ?_
    refine vc_seq ?_
    refine vc_block ?_
    refine vc_seq ?_
    refine vc_region ?_
    refine vl_det (det_indexAddr (size := 1) Tryz.underlying22 (by kernel_rfl) rfl rfl rfl (by omega) (by first | (exact Bor.own (by repeat (first | exact List.Mem.head _ | apply List.Mem.tail))) | (repeat (first | assumption | apply Bor.cons)))) rfl ?_
    refine vl_det (det_load_str (by kernel_rfl) rfl (by first | (exact Bor.own (by repeat (first | exact List.Mem.head _ | apply List.Mem.tail))) | (repeat (first | assumption | apply Bor.cons))) (by omega)) rfl ?_
    refine vl_det (det_assign rfl) rfl ?_
    refine vl_end [(0, _), (3, _), (5, _), (6, _), (7, _), (8, _)] ⟨rfl, rfl, rfl, rfl, rfl, rfl, trivial⟩ ?_
    refine then_next ?_
    refine vc_seq ?_
    refine vc_seq ?_
    refine vc_region ?_
    refine vl_det (det_move rfl) rfl ?_
    refine vl_det (det_move rfl) rfl ?_
    refine vl_call co54 rfl (dmay_d (prvT l k) (l.getD k [])) rfl ?_
    rintro _ _ ⟨rfl, hLL⟩
    obtain rfl := hLL.symm
    refine vl_det (det_notd rfl) rfl ?_
    refine vl_end [(0, _), (5, _), (6, _), (7, _), (8, _), (15, _)] ⟨rfl, rfl, rfl, rfl, rfl, rfl, trivial⟩ ?_
    refine then_next ?_
    refine vc_decideU rfl (fun h15 => ?_) (fun h15 => ?_)
    · skip
      refine vc_seq ?_
      refine vc_region ?_
      refine vl_det (det_assign rfl) rfl ?_
      refine vl_end [(2, _)] ⟨rfl, trivial⟩ ?_
      refine then_next ?_
      refine vc_ret ?_
      refine then_ret ?_
      refine in_ret ?_
      refine then_ret ?_
      refine loop_ret ?_
      refine in_ret ?_
      refine then_ret ?_
      refine ret1 rfl rfl ?_
      exact ⟨by rw [decide_eq_false (fun h => h15 (h.1 k (by omega)))], rfl⟩
    · skip
      have hmk : mayT (prvT l k) (l.getD k []) := Classical.not_not.1 h15
      refine vc_skip ?_
      refine then_next ?_
      refine vc_region ?_
      refine vl_det (det_move rfl) rfl ?_
      refine vl_det (det_assign rfl) rfl ?_
      refine vl_end [(0, _), (3, _), (6, _), (7, _), (8, _)] ⟨rfl, rfl, rfl, rfl, rfl, trivial⟩ ?_
      refine in_normal ?_
      refine then_next ?_
      refine vc_region ?_
      refine vl_det (det_add rfl rfl (w_i64 (by omega) (by omega))) rfl ?_
      refine vl_det (det_move rfl) rfl ?_
      refine vl_end [(0, _), (3, _), (6, _), (7, _), (8, _)] ⟨rfl, rfl, rfl, rfl, rfl, trivial⟩ ?_
      rw [← prvT_succ]
      refine in_loop_ ⟨_, by omega, k + 1, ⟨by omega, fun i hi => by
        by_cases e : i = k
        · rw [e]; exact hmk
        · exact hm i (by omega)⟩, rfl, ⟨(by first | rfl | exact int_to (by omega) | exact sl_to (by omega)), (by first | rfl | exact int_to (by omega) | exact sl_to (by omega)), (by first | rfl | exact int_to (by omega) | exact sl_to (by omega)), (by first | rfl | exact int_to (by omega) | exact sl_to (by omega)), (by first | rfl | exact int_to (by omega) | exact sl_to (by omega)), trivial⟩, .refl _⟩
  · skip
    refine vc_exit ?_
    refine then_exit ?_
    refine loop_exit ?_
    refine in_eq ?_
    refine then_next ?_
    refine vc_seq ?_
    refine vc_region ?_
    refine vl_det (det_move rfl) rfl ?_
    refine vl_det (det_len_sl Tryz.underlying22 rfl) rfl ?_
    refine vl_det (det_leq rfl rfl) rfl ?_
    refine vl_det (det_assign rfl) rfl ?_
    refine vl_end [(2, _)] ⟨rfl, trivial⟩ ?_
    refine then_next ?_
    refine vc_ret ?_
    refine ret1 rfl rfl ?_
    have e : k = l.length := by omega
    subst e
    exact ⟨by rw [decide_eq_decide.2 (show ((l.length : Int) ≤ 1048576) ↔ RisT l from ⟨fun h => ⟨hm, by omega⟩, fun h => by have := h.2; omega⟩)], rfl⟩
theorem encT_len {s : Txt} (h : s.length ≤ 1000000) : (encT s).length ≤ s.length + 10 := by
  have := encN_len10 (x := s.length) (by omega)
  unfold encT
  rw [List.length_append]
  omega
theorem tailT_len : ∀ (was : Txt) (r : List Txt), (∀ s ∈ r, s.length ≤ 25) → (tailT was r).length ≤ r.length * 45
  | _, [], _ => by simp [tailT]
  | was, s :: r, h => by
    have h1 := tailT_len s r (fun x hx => h x (by simp [hx]))
    have h2 := h s (by simp)
    have h3 : (encT (s.drop (lcp was s))).length ≤ 35 := by
      have := encT_len (s := s.drop (lcp was s)) (by rw [List.length_drop]; omega)
      rw [List.length_drop] at this
      omega
    have h4 : (encN (lcp was s)).length ≤ 10 := encN_len10 (by have := (lcp_le was s).2; omega)
    rw [tailT, List.length_append, List.length_append, List.length_cons, Nat.succ_mul]
    omega
theorem tailT_take : ∀ (t : Txt) (r : List Txt) (k : Nat), k < r.length → tailT t (r.take (k + 1)) = tailT t (r.take k) ++ (encN (lcp ((t :: r).getD k []) (r.getD k [])) ++ encT ((r.getD k []).drop (lcp ((t :: r).getD k []) (r.getD k []))))
  | _, [], _, h => absurd h (by simp)
  | t, s :: r, 0, _ => by simp [tailT]
  | t, s :: r, k + 1, h => by
    have := tailT_take s r k (by simpa using h)
    rw [List.take_succ_cons, tailT, this, List.take_succ_cons, tailT]
    simp only [List.getD_cons_succ, List.append_assoc]
theorem bucket_d {t : Txt} {r : List Txt} (hb : Bor B w0 F 1 (.slice A (r.length + 1) c) (r.length + 1) (strs (t :: r))) (hl : r.length ≤ 1000) (h25 : ∀ s ∈ t :: r, s.length ≤ 25) :
    Does Tryz.prog B w0 29 [.slice A (r.length + 1) c] F (fun v L => ∃ A' c', v = .slice A' (bucketT (t :: r)).length c' ∧ L = .own 5 1 A' (bucketT (t :: r)).length c' (bv (bucketT (t :: r))) :: F) := by
  have ht := h25 t (by simp)
  have hcut := hb.cut (k := 1) (by omega)
  rw [Nat.add_sub_cancel, show (strs (t :: r)).drop (1 * 1) = strs r from rfl] at hcut
  obtain ⟨A9, hA9⟩ : ∃ A9, A9 = (if c = 1 then A else A.map (·.add (1 * 1))) := ⟨_, rfl⟩
  obtain ⟨c9, hc9⟩ : ∃ c9, c9 = c - 1 := ⟨_, rfl⟩
  rw [← hA9, ← hc9] at hcut
  have e0 : (encT t ++ tailT t (r.take 0)).length = (encT t).length := by simp [tailT]
  refine fn_walk Tryz.func29 37 rfl rfl rfl [(0, .slice A (r.length + 1) c)] ⟨⟨rfl, rfl⟩, trivial⟩ ?_
  refine vc_seq ?_
  refine vc_region ?_
  refine vl_det (det_assign rfl) rfl ?_
  refine vl_end [(0, _)] ⟨rfl, trivial⟩ ?_
  refine then_next ?_
  refine vc_seq ?_
  refine vc_region ?_
  refine vl_det (det_move rfl) rfl ?_
  refine vl_det (det_indexAddr (i := 0) (size := 1) Tryz.underlying22 (by kernel_rfl) rfl rfl rfl (by omega) (by first | (exact Bor.own (by repeat (first | exact List.Mem.head _ | apply List.Mem.tail))) | (repeat (first | assumption | apply Bor.cons)))) rfl ?_
  refine vl_det (det_load_str (b := t :: r) (by kernel_rfl) rfl (by first | (exact Bor.own (by repeat (first | exact List.Mem.head _ | apply List.Mem.tail))) | (repeat (first | assumption | apply Bor.cons))) (by omega)) rfl ?_
  refine vl_call co56 rfl (text_d t (by omega)) rfl ?_
  rintro _ _ ⟨A10, c10, rfl, hLL⟩
  obtain rfl := hLL.symm
  refine vl_det (det_assign rfl) rfl ?_
  refine vl_end [(0, _), (3, _)] ⟨rfl, rfl, trivial⟩ ?_
  refine then_next ?_
  refine vc_seq ?_
  refine vc_seq ?_
  refine vc_region ?_
  refine vl_det (det_move rfl) rfl ?_
  refine vl_det (det_slice_lo (i := 1) (size := 1) Tryz.underlying22 (by kernel_rfl) rfl rfl rfl (by omega)) rfl ?_
  rw [Nat.add_sub_cancel, ← hA9, ← hc9]
  refine vl_det (det_len_sl Tryz.underlying22 rfl) rfl ?_
  refine vl_det (det_move rfl) rfl ?_
  refine vl_end [(0, _), (3, _), (12, _), (13, _), (14, _)] ⟨rfl, rfl, rfl, rfl, rfl, trivial⟩ ?_
  refine then_next ?_
  refine vc_block ?_
  refine vc_loopJ (fun zf zL zm => ∃ (k : Nat) (A3 : Option Addr) (c3 : Nat), (k ≤ r.length) ∧ r.length - k = zm ∧ Sub zf [(0, .slice A (r.length + 1) c), (3, .slice A3 (encT t ++ tailT t (r.take k)).length c3), (12, .slice A9 r.length c9), (13, .int .i64 r.length), (14, .int .i64 k)] ∧ Wk zL (.own 5 1 A3 (encT t ++ tailT t (r.take k)).length c3 (bv (encT t ++ tailT t (r.take k))) :: F)) _ ⟨0, A10, c10, Nat.zero_le _, rfl, ⟨(by first | rfl | exact int_to (by omega) | exact sl_to (by omega)), (by first | rfl | exact int_to (by omega) | exact sl_to (by omega)), (by first | rfl | exact int_to (by omega) | exact sl_to (by omega)), (by first | rfl | exact int_to (by omega) | exact sl_to (by omega)), (by first | rfl | exact int_to (by omega) | exact sl_to (by omega)), trivial⟩, wk_own (by simp [tailT]) (by simp [tailT]) (.refl _)⟩ ?_
  rintro _ _ _ ⟨k, A3, c3, hk, rfl, hs, hp⟩
  refine vc_weaken _ hs (vc_wk hp ?_)
  clear hs hp
  refine vc_seq ?_
  refine vc_region ?_
  refine vl_det (det_lss rfl rfl) rfl ?_
  refine vl_end [(0, _), (3, _), (12, _), (13, _), (14, _), (15, _)] ⟨rfl, rfl, rfl, rfl, rfl, rfl, trivial⟩ ?_
  refine then_next ?_
  refine vc_seq ?_
  refine vc_decideU rfl (fun h15 => ?_) (fun h15 => ?_)
  · skip
    have hpk : ((t :: r).getD k []).length ≤ 25 := h25 _ (by rw [List.getD_eq_getElem?_getD, List.getElem?_eq_getElem (show k < (t :: r).length by simp; omega)]; exact List.getElem_mem _)
    have hsk : (r.getD k []).length ≤ 25 := h25 _ (by simp [List.getD_eq_getElem?_getD, List.getElem?_eq_getElem (show k < r.length by omega)])
    have hlt := tailT_len t (r.take k) (fun s hs => h25 s (List.mem_cons_of_mem _ (List.mem_of_mem_take hs)))
    rw [List.length_take, Nat.min_eq_left (by omega)] at hlt
    have hle := lcp_le ((t :: r).getD k []) (r.getD k [])
    have hk45 : k * 45 ≤ 1000 * 45 := Nat.mul_le_mul_right _ (by omega)
    have htl := encT_len (s := t) (by omega)
    refine vc_skip ?_
    refine then_next ?_
    refine vc_seq ?_
    refine vc_block ?_
    refine vc_seq ?_
    refine vc_region ?_
    refine vl_det (det_move rfl) rfl ?_
    refine vl_det (det_indexAddr (size := 1) Tryz.underlying22 (by kernel_rfl) rfl rfl rfl (by omega) (by first | (exact Bor.own (by repeat (first | exact List.Mem.head _ | apply List.Mem.tail))) | (repeat (first | assumption | apply Bor.cons)))) rfl ?_
    refine vl_det (det_load_str (b := r) (by kernel_rfl) rfl (by first | (exact Bor.own (by repeat (first | exact List.Mem.head _ | apply List.Mem.tail))) | (repeat (first | assumption | apply Bor.cons))) (by omega)) rfl ?_
    refine vl_det (det_assign rfl) rfl ?_
    refine vl_det (det_assign rfl) rfl ?_
    refine vl_end [(0, _), (3, _), (4, _), (5, _), (12, _), (13, _), (14, _)] ⟨rfl, rfl, rfl, rfl, rfl, rfl, rfl, trivial⟩ ?_
    refine then_next ?_
    refine vc_seq ?_
    refine vc_region ?_
    refine vl_det (det_move rfl) rfl ?_
    refine vl_det (det_move rfl) rfl ?_
    refine vl_det (det_indexAddr (i := k) (size := 1) Tryz.underlying22 (by kernel_rfl) rfl rfl rfl (by omega) (by first | (exact Bor.own (by repeat (first | exact List.Mem.head _ | apply List.Mem.tail))) | (repeat (first | assumption | apply Bor.cons)))) rfl ?_
    refine vl_det (det_load_str (b := t :: r) (by kernel_rfl) rfl (by first | (exact Bor.own (by repeat (first | exact List.Mem.head _ | apply List.Mem.tail))) | (repeat (first | assumption | apply Bor.cons))) (by omega)) rfl ?_
    refine vl_det (det_move rfl) rfl ?_
    refine vl_call co57 rfl (dsame_d ((t :: r).getD k []) (r.getD k []) (by omega)) rfl ?_
    rintro _ _ ⟨rfl, hLL⟩
    obtain rfl := hLL.symm
    refine vl_det (det_assign rfl) rfl ?_
    refine vl_end [(0, _), (3, _), (5, _), (6, _), (12, _), (13, _), (14, _)] ⟨rfl, rfl, rfl, rfl, rfl, rfl, rfl, trivial⟩ ?_
    refine then_next ?_
    refine vh_region (S := .own 5 1 A3 (encT t ++ tailT t (r.take k)).length c3 (bv (encT t ++ tailT t (r.take k))) :: F) (by kernel_rfl) (by repeat (first | exact List.Sublist.refl _ | exact List.nil_sublist _ | exact List.sublist_append_right _ _ | apply List.Sublist.cons_cons | apply List.Sublist.cons)) ?_
    refine vh_take 0 rfl (by kernel_rfl) (by kernel_rfl) (by kernel_rfl) (det_move rfl) rfl ?_
    refine vh_take 1 rfl (by kernel_rfl) (by kernel_rfl) (by kernel_rfl) (det_move rfl) rfl ?_
    refine vh_take 2 rfl (by kernel_rfl) (by kernel_rfl) (by kernel_rfl) (det_conv Tryz.underlying3 Tryz.underlying39 rfl (w_u64 (by omega) (by omega))) rfl ?_
    refine vh_take 4 rfl (by kernel_rfl) (by kernel_rfl) (by kernel_rfl) (det_move rfl) rfl ?_
    refine vh_take 5 rfl (by kernel_rfl) (by kernel_rfl) (by kernel_rfl) (det_move rfl) rfl ?_
    refine vh_take 6 rfl (by kernel_rfl) (by kernel_rfl) (by kernel_rfl) (det_str_lo Tryz.underlying9 rfl rfl rfl (by omega)) rfl ?_
    refine vh_one 3 (by kernel_rfl) ?_
    refine st_call rfl .no co27 rfl (num_d (lcp ((t :: r).getD k []) (r.getD k [])) (by omega)) rfl (by rintro _ _ ⟨A28, c28, rfl, rfl⟩; exact (by repeat (first | exact List.Sublist.refl _ | exact List.nil_sublist _ | exact List.sublist_append_right _ _ | apply List.Sublist.cons_cons | apply List.Sublist.cons))) ?_
    rintro _ _ ⟨A28, c28, rfl, hLL⟩
    obtain rfl := hLL.symm
    refine vh_one 7 (by kernel_rfl) ?_
    refine st_call rfl .no co56 rfl (text_d ((r.getD k []).drop (lcp ((t :: r).getD k []) (r.getD k []))) (by rw [List.length_drop]; omega)) rfl (by rintro _ _ ⟨A32, c32, rfl, rfl⟩; exact (by repeat (first | exact List.Sublist.refl _ | exact List.nil_sublist _ | exact List.sublist_append_right _ _ | apply List.Sublist.cons_cons | apply List.Sublist.cons))) ?_
    rintro _ _ ⟨A32, c32, rfl, hLL⟩
    obtain rfl := hLL.symm
    refine vh_one 8 (by kernel_rfl) ?_
    refine st_eff rfl .no (eff_build_lit slT44 [_, _, _] rfl rfl (by first | exact bv_one _ | exact strs_one _ | exact ints_one _ _ | (simp; done) | (simp [Value.oneCell']; done) | assumption) (by omega) (by omega)) rfl (by rintro _ _ ⟨A33, rfl, rfl⟩; exact (by repeat (first | exact List.Sublist.refl _ | exact List.nil_sublist _ | exact List.sublist_append_right _ _ | apply List.Sublist.cons_cons | apply List.Sublist.cons))) ?_
    rintro _ _ ⟨A33, rfl, rfl⟩
    refine vh_one 9 (by kernel_rfl) ?_
    refine st_call rfl .no co14 rfl (all_d (l := encT t ++ tailT t (r.take (k + 1))) (P := [(.slice A3 (encT t ++ tailT t (r.take k)).length c3, encT t ++ tailT t (r.take k)), (.slice A28 (encN (lcp ((t :: r).getD k []) (r.getD k []))).length c28, encN (lcp ((t :: r).getD k []) (r.getD k []))), (.slice A32 (encT ((r.getD k []).drop (lcp ((t :: r).getD k []) (r.getD k [])))).length c32, encT ((r.getD k []).drop (lcp ((t :: r).getD k []) (r.getD k []))))]) (by first | (exact Bor.own (by repeat (first | exact List.Mem.head _ | apply List.Mem.tail))) | (repeat (first | assumption | apply Bor.cons))) (by intro y hy; simp only [List.mem_cons, List.not_mem_nil, or_false] at hy; rcases hy with rfl | rfl | rfl <;> exact (by first | (exact Bor.own (by repeat (first | exact List.Mem.head _ | apply List.Mem.tail))) | (repeat (first | assumption | apply Bor.cons)))) rfl (by rw [tailT_take t r k (by omega)]; simp [Parts.all, List.append_assoc]) (by rw [List.length_append]; have := tailT_len t (r.take (k + 1)) (fun s hs => h25 s (List.mem_cons_of_mem _ (List.mem_of_mem_take hs))); rw [List.length_take] at this; omega) (by simp)) rfl (by rintro _ _ ⟨A34, c34, rfl, rfl⟩; exact (by repeat (first | exact List.Sublist.refl _ | exact List.nil_sublist _ | exact List.sublist_append_right _ _ | apply List.Sublist.cons_cons | apply List.Sublist.cons))) ?_
    rintro _ _ ⟨A34, c34, rfl, hLL⟩
    obtain rfl := hLL.symm
    refine vh_take 10 rfl (by kernel_rfl) (by kernel_rfl) (by kernel_rfl) (det_assign rfl) rfl ?_
    refine vh_done [(0, _), (3, _), (12, _), (13, _), (14, _)] ⟨rfl, rfl, rfl, rfl, rfl, trivial⟩ (by kernel_rfl) ?_
    refine in_normal ?_
    refine then_next ?_
    refine vc_region ?_
    refine vl_det (det_add rfl rfl (w_i64 (by omega) (by omega))) rfl ?_
    refine vl_det (det_move rfl) rfl ?_
    refine vl_end [(0, _), (3, _), (12, _), (13, _), (14, _)] ⟨rfl, rfl, rfl, rfl, rfl, trivial⟩ ?_
    refine in_loop_ ⟨_, by omega, k + 1, A34, c34, by omega, rfl, ⟨(by first | rfl | exact int_to (by omega) | exact sl_to (by omega)), (by first | rfl | exact int_to (by omega) | exact sl_to (by omega)), (by first | rfl | exact int_to (by omega) | exact sl_to (by omega)), (by first | rfl | exact int_to (by omega) | exact sl_to (by omega)), (by first | rfl | exact int_to (by omega) | exact sl_to (by omega)), trivial⟩, .cons (.skip (.skip (.skip (.skip (.refl _)))))⟩
  · skip
    refine vc_exit ?_
    refine then_exit ?_
    refine loop_exit ?_
    refine in_eq ?_
    refine then_next ?_
    refine vc_seq ?_
    refine vc_region ?_
    refine vl_det (det_move rfl) rfl ?_
    refine vl_det (det_assign rfl) rfl ?_
    refine vl_end [(2, _)] ⟨rfl, trivial⟩ ?_
    refine then_next ?_
    refine vc_ret ?_
    obtain rfl : k = r.length := by omega
    rw [List.take_length]
    refine ret1 rfl rfl ?_
    exact ⟨A3, c3, rfl, rfl⟩
end Go.Proofs.YtpamjobiohbibaaGreat
namespace Go.Proofs.YtpamjobiohbibaaGreat
open Go.RowKit
set_option linter.unusedVariables false
set_option maxRecDepth 20000
variable {B : Nat} {w0 : World} {F : List Ch} {A A1 A2 : Option Addr} {n c c1 c2 g : Nat}
def ck (l : List Txt) (sz i : Nat) : List Txt := (l.drop (i * sz)).take sz
def headT (l : List Txt) (sz : Nat) (ks : List Nat) : List UInt8 := ks.flatMap fun i => encN (bucketT (ck l sz i)).length
def bodyT (l : List Txt) (sz : Nat) (ks : List Nat) : List UInt8 := ks.flatMap fun i => bucketT (ck l sz i)
def dictB (sz : Nat) (l : List Txt) : List UInt8 := (encN l.length ++ headT l sz (List.range (chN sz l.length))) ++ bodyT l sz (List.range (chN sz l.length))
def dictW (size : Int) (l : List Txt) : List UInt8 × Int := if size < 1 ∨ 64 < size ∨ ¬ RisT l then ([], 13) else (dictB size.toNat l, 0)
theorem ck_len (l : List Txt) (sz i : Nat) : (ck l sz i).length = chE sz l.length i := by simp [ck, chE]
theorem RisT.le {l : List Txt} (h : RisT l) : ∀ s ∈ l, s.length ≤ 25 := fun s hs => by
  obtain ⟨i, hi, rfl⟩ := List.getElem_of_mem hs
  have := (h.1 i hi).2.1
  rwa [List.getD_eq_getElem?_getD, List.getElem?_eq_getElem hi] at this
theorem ck_mem {l : List Txt} {sz i : Nat} {s : Txt} (h : s ∈ ck l sz i) : s ∈ l := List.mem_of_mem_drop (List.mem_of_mem_take h)
theorem bucketT_len {l : List Txt} (hl : l.length ≤ 64) (h : ∀ s ∈ l, s.length ≤ 25) : (bucketT l).length ≤ 3000 := by
  cases l with
  | nil => simp [bucketT]
  | cons t r =>
    have h1 := tailT_len t r (fun s hs => h s (by simp [hs]))
    have h2 := encT_len (s := t) (by have := h t (by simp); omega)
    have h3 := h t (by simp)
    have : r.length * 45 ≤ 64 * 45 := Nat.mul_le_mul_right _ (by simp at hl; omega)
    rw [bucketT, List.length_append]
    omega
theorem bodyT_len {l : List Txt} {sz : Nat} (hsz : sz ≤ 64) (h : ∀ s ∈ l, s.length ≤ 25) : ∀ ks : List Nat, (bodyT l sz ks).length ≤ ks.length * 3000
  | [] => by simp [bodyT]
  | k :: ks => by
    have h1 := bodyT_len hsz h ks
    have h2 := bucketT_len (l := ck l sz k) (by rw [ck_len]; unfold chE; omega) (fun s hs => h s (ck_mem hs))
    simp only [bodyT, List.flatMap_cons, List.length_append, List.length_cons, Nat.succ_mul] at h1 ⊢
    omega
theorem headT_len {l : List Txt} {sz : Nat} (hsz : sz ≤ 64) (h : ∀ s ∈ l, s.length ≤ 25) : ∀ ks : List Nat, (headT l sz ks).length ≤ ks.length * 10
  | [] => by simp [headT]
  | k :: ks => by
    have h1 := headT_len hsz h ks
    have h2 := bucketT_len (l := ck l sz k) (by rw [ck_len]; unfold chE; omega) (fun s hs => h s (ck_mem hs))
    have h3 : (encN (bucketT (ck l sz k)).length).length ≤ 10 := encN_len10 (by omega)
    simp only [headT, List.flatMap_cons, List.length_append, List.length_cons, Nat.succ_mul] at h1 ⊢
    omega
theorem bodyT_snoc (l : List Txt) (sz : Nat) (ks : List Nat) (k : Nat) : bodyT l sz (ks ++ [k]) = bodyT l sz ks ++ bucketT (ck l sz k) := by simp [bodyT]
theorem headT_snoc (l : List Txt) (sz : Nat) (ks : List Nat) (k : Nat) : headT l sz (ks ++ [k]) = headT l sz ks ++ encN (bucketT (ck l sz k)).length := by simp [headT]
theorem obj_own {q : Ch} {e : TypeId} {size n c : Nat} {A : Option Addr} {xs : List Value} {L : List Ch} (h : q.isObj = true) : q ∈ Ch.own e size A n c xs :: L ↔ q ∈ L :=
  ⟨fun hm => (List.mem_cons.1 hm).resolve_left fun e => (by rw [e] at h; cases h), fun hm => List.mem_cons_of_mem _ hm⟩
theorem obj_blk {q : Ch} {g : Nat} {t : TypeId} {xs : List Value} {L : List Ch} (h : q.isObj = true) : q ∈ Ch.blk g t xs :: L ↔ q ∈ L :=
  ⟨fun hm => (List.mem_cons.1 hm).resolve_left fun e => (by rw [e] at h; cases h), fun hm => List.mem_cons_of_mem _ hm⟩
theorem bucket_dl {X : List Txt} {c : Nat} (hne : X ≠ []) (hb : Bor B w0 F 1 (.slice A X.length c) X.length (strs X)) (hl : X.length ≤ 64) (h25 : ∀ s ∈ X, s.length ≤ 25) :
    Does Tryz.prog B w0 29 [.slice A X.length c] F (fun v L => ∃ A' c', v = .slice A' (bucketT X).length c' ∧ L = .own 5 1 A' (bucketT X).length c' (bv (bucketT X)) :: F) := by
  cases X with
  | nil => exact absurd rfl hne
  | cons t r => exact bucket_d hb (by simp at hl; omega) h25
/-- a part reads -/
theorem bor_ck {l : List Txt} (hb : Bor B w0 F 1 (.slice A l.length c) l.length (strs l)) {sz i : Nat} (hi : i * sz < l.length) : Bor B w0 F 1 (.slice (A.map (·.add (i * sz))) (ck l sz i).length (ck l sz i).length) (ck l sz i).length (strs (ck l sz i)) := fun w hs => by
  obtain ⟨A', c', e, h1, h2, h3⟩ := hb w hs
  obtain ⟨rfl, _, rfl⟩ : A = A' ∧ True ∧ c = c' := by injection e with a b d; exact ⟨a, trivial, d⟩
  obtain ⟨ad, rfl, h4, h5⟩ := h3 (by omega)
  refine ⟨_, _, rfl, Nat.le_refl _, by simp, fun _ => ⟨_, rfl, by show (ad.add (i * sz)).block < _; unfold Addr.add; split <;> exact h4, fun j u hu => ?_⟩⟩
  have hu' : (strs l)[i * sz + j]? = some u := by
    unfold ck strs at hu
    unfold strs
    rw [List.getElem?_map] at hu ⊢
    rw [List.getElem?_take] at hu
    split at hu
    · rw [List.getElem?_drop] at hu; exact hu
    · cases hu
  have := h5 _ _ hu'
  show w.cell? ((ad.add (i * sz)).add j) = some u
  rw [add_of_add]; exact this
theorem dwrite_bad {size : Int} {l : List Txt} (hb : Bor B w0 F 1 (.slice A l.length c) l.length (strs l)) (hl : l.length ≤ 1000000000000000) (hE : size < 1 ∨ 64 < size ∨ ¬ RisT l) :
    Does Tryz.prog B w0 12 [.int .i64 size, .slice A l.length c] F (fun r L => ∃ A' c', r = .tuple #[.slice A' 0 c', .int .i64 13] ∧ L = .own 5 1 A' 0 c' [] :: F) := by
  refine fn_marks Tryz.func12 44 rfl rfl rfl [(0, .int .i64 size), (1, .slice A l.length c)] ⟨⟨rfl, rfl⟩, ⟨rfl, rfl⟩, trivial⟩ ?_
  refine vg_seq ?_
  refine vc_region ?_
  refine vl_det (det_assign rfl) rfl ?_
  refine vl_det (det_assign rfl) rfl ?_
  refine vl_end [(0, _), (1, _)] ⟨rfl, rfl, trivial⟩ ?_
  refine tg_next ?_
  refine vg_seq ?_
  refine vc_seq ?_
  refine vc_region ?_
  refine vl_cut 11 20 [(0, _), (1, _)] (size < 1 ∨ 64 < size ∨ ¬ RisT l) ⟨rfl, rfl, trivial⟩ ?_ ?_
  · skip
    refine vl_det (det_move rfl) rfl ?_
    refine vl_det (det_lss rfl rfl) rfl ?_
    refine vl_det (det_move rfl) rfl ?_
    refine vl_guardn rfl rfl rfl (fun h12 => ?_) (fun h12 => ?_)
    · skip
      refine vl_det (det_move rfl) rfl ?_
      refine vl_guard_t rfl rfl ?_
      refine vl_det (det_gtr rfl rfl) rfl ?_
      refine vl_det (det_pick_f rfl rfl) rfl ?_
      refine vl_det (det_move rfl) rfl ?_
      refine vl_guardn rfl rfl rfl (fun h16 => ?_) (fun h16 => ?_)
      · skip
        refine vl_det (det_move rfl) rfl ?_
        refine vl_guard_t rfl rfl ?_
        refine vl_call co26 rfl (drises_d hb hl) rfl ?_
        rintro _ _ ⟨rfl, hLL⟩
        obtain rfl := hLL.symm
        refine vl_guard_t rfl rfl ?_
        refine vl_det (det_notd rfl) rfl ?_
        refine vl_det (det_pick_f rfl rfl) rfl ?_
        exact vl_cut_end ⟨rfl, rfl, trivial⟩ (by first | rfl | exact bool_to_t (by first | exact .inl (by omega) | exact .inr (.inl (by omega)) | exact ⟨fun h => .inr (.inr h), fun h => by rcases h with h | h | h <;> first | omega | exact h⟩) | exact bool_to_f (by first | exact .inl (by omega) | exact .inr (.inl (by omega)) | exact ⟨fun h => .inr (.inr h), fun h => by rcases h with h | h | h <;> first | omega | exact h⟩) | exact bool_to (by first | exact .inl (by omega) | exact .inr (.inl (by omega)) | exact ⟨fun h => .inr (.inr h), fun h => by rcases h with h | h | h <;> first | omega | exact h⟩) | exact bool_to_b (by first | exact .inl (by omega) | exact .inr (.inl (by omega)) | exact ⟨fun h => .inr (.inr h), fun h => by rcases h with h | h | h <;> first | omega | exact h⟩))
      · skip
        refine vl_guard_f rfl rfl rfl rfl ?_
        refine vl_guard_f rfl rfl rfl rfl ?_
        refine vl_det (det_pick_t rfl rfl) rfl ?_
        exact vl_cut_end ⟨rfl, rfl, trivial⟩ (by first | rfl | exact bool_to_t (by first | exact .inl (by omega) | exact .inr (.inl (by omega)) | exact ⟨fun h => .inr (.inr h), fun h => by rcases h with h | h | h <;> first | omega | exact h⟩) | exact bool_to_f (by first | exact .inl (by omega) | exact .inr (.inl (by omega)) | exact ⟨fun h => .inr (.inr h), fun h => by rcases h with h | h | h <;> first | omega | exact h⟩) | exact bool_to (by first | exact .inl (by omega) | exact .inr (.inl (by omega)) | exact ⟨fun h => .inr (.inr h), fun h => by rcases h with h | h | h <;> first | omega | exact h⟩) | exact bool_to_b (by first | exact .inl (by omega) | exact .inr (.inl (by omega)) | exact ⟨fun h => .inr (.inr h), fun h => by rcases h with h | h | h <;> first | omega | exact h⟩))
    · skip
      refine vl_guard_f rfl rfl rfl rfl ?_
      refine vl_det (det_pick_t rfl rfl) rfl ?_
      refine vl_det (det_move rfl) rfl ?_
      refine vl_guard_f rfl rfl rfl rfl ?_
      refine vl_guard_f rfl rfl rfl rfl ?_
      refine vl_guard_f rfl rfl rfl rfl ?_
      refine vl_det (det_pick_t rfl rfl) rfl ?_
      exact vl_cut_end ⟨rfl, rfl, trivial⟩ (by first | rfl | exact bool_to_t (by first | exact .inl (by omega) | exact .inr (.inl (by omega)) | exact ⟨fun h => .inr (.inr h), fun h => by rcases h with h | h | h <;> first | omega | exact h⟩) | exact bool_to_f (by first | exact .inl (by omega) | exact .inr (.inl (by omega)) | exact ⟨fun h => .inr (.inr h), fun h => by rcases h with h | h | h <;> first | omega | exact h⟩) | exact bool_to (by first | exact .inl (by omega) | exact .inr (.inl (by omega)) | exact ⟨fun h => .inr (.inr h), fun h => by rcases h with h | h | h <;> first | omega | exact h⟩) | exact bool_to_b (by first | exact .inl (by omega) | exact .inr (.inl (by omega)) | exact ⟨fun h => .inr (.inr h), fun h => by rcases h with h | h | h <;> first | omega | exact h⟩))
  · skip
    refine vl_end [(0, _), (1, _), (20, _)] ⟨rfl, rfl, rfl, trivial⟩ ?_
    refine then_next ?_
    refine vc_decideU rfl (fun h20 => ?_) (fun h20 => ?_)
    · skip
      refine vc_seq ?_
      refine vc_region ?_
      refine vl_det (det_assign rfl) rfl ?_
      refine vl_det (det_assign rfl) rfl ?_
      refine vl_end [(4, _), (5, _)] ⟨rfl, rfl, trivial⟩ ?_
      refine then_next ?_
      refine vc_ret ?_
      refine tg_ret rfl ?_
      refine ret_nil_row 5 1 none ?_
      refine ret2 rfl rfl rfl ?_
      exact ⟨none, 0, rfl, rfl⟩
    · skip
      exfalso; exact h20 hE
theorem dwrite_ok {sz : Nat} {l : List Txt} (hb : Bor B w0 F 1 (.slice A l.length c) l.length (strs l)) (hlc : l.length ≤ c) (hs1 : 1 ≤ sz) (hs2 : sz ≤ 64) (hR : RisT l) :
    Does Tryz.prog B w0 12 [.int .i64 sz, .slice A l.length c] F (fun r L => ∃ A' c', r = .tuple #[.slice A' (dictB sz l).length c', .int .i64 0] ∧ L = .own 5 1 A' (dictB sz l).length c' (bv (dictB sz l)) :: F) := by
  have hlen := hR.2
  have h25 := hR.le
  have hNl : chN sz l.length ≤ 1048639 := by
    unfold chN
    exact Nat.le_trans (Nat.div_le_self _ _) (by omega)
  have hnl : (encN l.length).length ≤ 10 := encN_len10 (by omega)
  refine fn_marks Tryz.func12 44 rfl rfl rfl [(0, .int .i64 sz), (1, .slice A l.length c)] ⟨⟨rfl, rfl⟩, ⟨rfl, rfl⟩, trivial⟩ ?_
  refine vg_seq ?_
  refine vc_region ?_
  refine vl_det (det_assign rfl) rfl ?_
  refine vl_det (det_assign rfl) rfl ?_
  refine vl_end [(0, _), (1, _)] ⟨rfl, rfl, trivial⟩ ?_
  refine tg_next ?_
  refine vg_seq ?_
  refine vc_seq ?_
  refine vc_region ?_
  refine vl_cut 11 20 [(0, _), (1, _)] ((sz : Int) < 1 ∨ 64 < (sz : Int) ∨ ¬ RisT l) ⟨rfl, rfl, trivial⟩ ?_ ?_
  · skip
    refine vl_det (det_move rfl) rfl ?_
    refine vl_det (det_lss rfl rfl) rfl ?_
    refine vl_det (det_move rfl) rfl ?_
    refine vl_guardn rfl rfl rfl (fun h12 => ?_) (fun h12 => ?_)
    · skip
      refine vl_det (det_move rfl) rfl ?_
      refine vl_guard_t rfl rfl ?_
      refine vl_det (det_gtr rfl rfl) rfl ?_
      refine vl_det (det_pick_f rfl rfl) rfl ?_
      refine vl_det (det_move rfl) rfl ?_
      refine vl_guardn rfl rfl rfl (fun h16 => ?_) (fun h16 => ?_)
      · skip
        refine vl_det (det_move rfl) rfl ?_
        refine vl_guard_t rfl rfl ?_
        refine vl_call co26 rfl (drises_d hb (by omega)) rfl ?_
        rintro _ _ ⟨rfl, hLL⟩
        obtain rfl := hLL.symm
        refine vl_guard_t rfl rfl ?_
        refine vl_det (det_notd rfl) rfl ?_
        refine vl_det (det_pick_f rfl rfl) rfl ?_
        exact vl_cut_end ⟨rfl, rfl, trivial⟩ (by first | rfl | exact bool_to_t (by first | exact .inl (by omega) | exact .inr (.inl (by omega)) | exact ⟨fun h => .inr (.inr h), fun h => by rcases h with h | h | h <;> first | omega | exact h⟩) | exact bool_to_f (by first | exact .inl (by omega) | exact .inr (.inl (by omega)) | exact ⟨fun h => .inr (.inr h), fun h => by rcases h with h | h | h <;> first | omega | exact h⟩) | exact bool_to (by first | exact .inl (by omega) | exact .inr (.inl (by omega)) | exact ⟨fun h => .inr (.inr h), fun h => by rcases h with h | h | h <;> first | omega | exact h⟩) | exact bool_to_b (by first | exact .inl (by omega) | exact .inr (.inl (by omega)) | exact ⟨fun h => .inr (.inr h), fun h => by rcases h with h | h | h <;> first | omega | exact h⟩))
      · skip
        refine vl_guard_f rfl rfl rfl rfl ?_
        refine vl_guard_f rfl rfl rfl rfl ?_
        refine vl_det (det_pick_t rfl rfl) rfl ?_
        exact vl_cut_end ⟨rfl, rfl, trivial⟩ (by first | rfl | exact bool_to_t (by first | exact .inl (by omega) | exact .inr (.inl (by omega)) | exact ⟨fun h => .inr (.inr h), fun h => by rcases h with h | h | h <;> first | omega | exact h⟩) | exact bool_to_f (by first | exact .inl (by omega) | exact .inr (.inl (by omega)) | exact ⟨fun h => .inr (.inr h), fun h => by rcases h with h | h | h <;> first | omega | exact h⟩) | exact bool_to (by first | exact .inl (by omega) | exact .inr (.inl (by omega)) | exact ⟨fun h => .inr (.inr h), fun h => by rcases h with h | h | h <;> first | omega | exact h⟩) | exact bool_to_b (by first | exact .inl (by omega) | exact .inr (.inl (by omega)) | exact ⟨fun h => .inr (.inr h), fun h => by rcases h with h | h | h <;> first | omega | exact h⟩))
    · skip
      refine vl_guard_f rfl rfl rfl rfl ?_
      refine vl_det (det_pick_t rfl rfl) rfl ?_
      refine vl_det (det_move rfl) rfl ?_
      refine vl_guard_f rfl rfl rfl rfl ?_
      refine vl_guard_f rfl rfl rfl rfl ?_
      refine vl_guard_f rfl rfl rfl rfl ?_
      refine vl_det (det_pick_t rfl rfl) rfl ?_
      exact vl_cut_end ⟨rfl, rfl, trivial⟩ (by first | rfl | exact bool_to_t (by first | exact .inl (by omega) | exact .inr (.inl (by omega)) | exact ⟨fun h => .inr (.inr h), fun h => by rcases h with h | h | h <;> first | omega | exact h⟩) | exact bool_to_f (by first | exact .inl (by omega) | exact .inr (.inl (by omega)) | exact ⟨fun h => .inr (.inr h), fun h => by rcases h with h | h | h <;> first | omega | exact h⟩) | exact bool_to (by first | exact .inl (by omega) | exact .inr (.inl (by omega)) | exact ⟨fun h => .inr (.inr h), fun h => by rcases h with h | h | h <;> first | omega | exact h⟩) | exact bool_to_b (by first | exact .inl (by omega) | exact .inr (.inl (by omega)) | exact ⟨fun h => .inr (.inr h), fun h => by rcases h with h | h | h <;> first | omega | exact h⟩))
  · skip
    refine vl_end [(0, _), (1, _), (20, _)] ⟨rfl, rfl, rfl, trivial⟩ ?_
    refine then_next ?_
    refine vc_decideU rfl (fun h20 => ?_) (fun h20 => ?_)
    · skip
      exfalso; rcases h20 with h | h | h <;> first | omega | exact h hR
    · skip
      refine vc_skip ?_
      refine tg_next ?_
      refine vg_seq ?_
      refine vc_region ?_
      refine vl_det (det_move rfl) rfl ?_
      refine vl_det (det_len_sl Tryz.underlying22 rfl) rfl ?_
      refine vl_det (det_conv Tryz.underlying3 Tryz.underlying39 rfl (w_u64 (by omega) (by omega))) rfl ?_
      refine vl_call co27 rfl (num_d l.length (by omega)) rfl ?_
      rintro _ _ ⟨A24, c24, rfl, hLL⟩
      obtain rfl := hLL.symm
      refine vl_eff (eff_alloc_z (zv := (.slice none 0 0)) (by kernel_rfl) rfl) rfl ?_
      rintro _ _ ⟨g6, rfl, rfl⟩
      refine vl_eff0 (eff_store (by kernel_rfl) rfl rfl rfl (by repeat (first | exact .hd | apply Sel.tl)) (by simp)) ?_
      rintro _ _ rfl
      refine vl_end [(0, _), (1, _), (6, _)] ⟨rfl, rfl, rfl, trivial⟩ ?_
      refine tg_next ?_
      refine vg_seq ?_
      refine vc_nil_row 5 1 none ?_
      refine vc_region ?_
      refine vl_eff (eff_alloc_z (zv := (.slice none 0 0)) (by kernel_rfl) rfl) rfl ?_
      rintro _ _ ⟨g7, rfl, rfl⟩
      refine vl_end [(0, _), (1, _), (6, _), (7, _)] ⟨rfl, rfl, rfl, rfl, trivial⟩ ?_
      refine tg_next ?_
      refine vg_seq2 ?_
      refine vc_region ?_
      refine vl_det (det_move rfl) rfl ?_
      refine vl_det (det_move rfl) rfl ?_
      refine vl_call co28 rfl (chunk_d hs1) rfl ?_
      rintro _ _ ⟨g2, g3, rfl, hLL⟩
      obtain rfl := hLL.symm
      refine vl_end [(6, _), (7, _), (27, _)] ⟨rfl, rfl, rfl, trivial⟩ ?_
      refine tg_next ?_
      refine vg_range (N := chN sz l.length) co55 rfl rfl rfl (fun i : Fin (chN sz l.length) => chV A sz l.length i.val) (fun xs => xs.map (·.val) = List.range (chN sz l.length)) (fun _ => True) [.blk g2 22 [.slice A l.length c], .blk g3 3 [.int .i64 sz]]
        (fun w hw => chunk_stops hs1 (by omega) (by omega) hlc (fun e => by have := (List.pairwise_cons.1 hw.apart).1 _ List.mem_cons_self; subst e; rcases this with h | h <;> simp [Ch.fp] at h) w (hw.all _ (List.mem_cons_of_mem _ List.mem_cons_self)) (hw.all _ List.mem_cons_self))
        (fun (_ : List (Fin (chN sz l.length))) (_ : Option Addr × Nat × Option Addr × Nat) => True) (fun pre s => .blk g3 3 [.int .i64 sz] :: .blk g2 22 [.slice A l.length c] :: .blk g7 26 [.slice s.1 (bodyT l sz (pre.map (·.val))).length s.2.1] :: .own 5 1 s.1 (bodyT l sz (pre.map (·.val))).length s.2.1 (bv (bodyT l sz (pre.map (·.val)))) :: .blk g6 26 [.slice s.2.2.1 (encN l.length ++ headT l sz (pre.map (·.val))).length s.2.2.2] :: .own 5 1 s.2.2.1 (encN l.length ++ headT l sz (pre.map (·.val))).length s.2.2.2 (bv (encN l.length ++ headT l sz (pre.map (·.val)))) :: F)
        (fun pre s q hq => by simp only [obj_own hq, obj_blk hq]) (fun q hq => by
          simp only [List.mem_cons, List.not_mem_nil, or_false] at hq
          rcases hq with rfl | rfl
          · exact ⟨rfl, fun pre s => List.mem_cons_of_mem _ List.mem_cons_self⟩
          · exact ⟨rfl, fun pre s => List.mem_cons_self⟩)
        (none, 0, A24, c24) trivial (.cons (.cons (wk_blk (by simp [bodyT]) (wk_own (by simp [bodyT]) (by simp [bodyT]) (wk_blk (by simp [headT]) (wk_own (by simp [headT]) (by simp [headT]) (.refl _))))))) ?_ ?_
      · skip
        rintro l' pre x ⟨A7, c7, A6, c6⟩ w1 _ hpl hbel F'
        have hxn : x.val * sz < l.length := (chN_lt hs1).1 x.isLt
        have hbx := ((bor_ck hb hxn).later hbel).mono (List.sublist_append_left F F')
        have hX := ck_len l sz x.val
        have hXE : chE sz l.length x.val ≤ 64 := by unfold chE; omega
        have hX1 : 1 ≤ chE sz l.length x.val := by unfold chE; omega
        have hvX : chV A sz l.length x.val = .slice (A.map (·.add (x.val * sz))) (ck l sz x.val).length (ck l sz x.val).length := by unfold chV; rw [hX]
        have hB1 := bodyT_len hs2 h25 (pre.map (·.val))
        have hH1 := headT_len hs2 h25 (pre.map (·.val))
        rw [List.length_map] at hB1 hH1
        have hbl := bucketT_len (l := ck l sz x.val) (by omega) (fun s hs => h25 s (ck_mem hs))
        have hsB := bodyT_snoc l sz (pre.map (·.val)) x.val
        have hsH := headT_snoc l sz (pre.map (·.val)) x.val
        have hmp : (pre ++ [x]).map (·.val) = pre.map (·.val) ++ [x.val] := by simp
        simp only [List.cons_append, hvX, hmp, hsB, hsH]
        have hneX : ck l sz x.val ≠ [] := fun e => by rw [e] at hX; simp at hX; omega
        have h25X : ∀ s ∈ ck l sz x.val, s.length ≤ 25 := fun s hs => h25 s (ck_mem hs)
        generalize ck l sz x.val = X at *
        generalize A.map (·.add (x.val * sz)) = A8 at *
        generalize bodyT l sz (pre.map (·.val)) = bd at *
        generalize headT l sz (pre.map (·.val)) = hd at *
        have hln : (encN l.length ++ hd).length = (encN l.length).length + hd.length := List.length_append
        have hbn : (encN (bucketT X).length).length ≤ 10 := encN_len10 (by omega)
        refine vr_block ?_
        refine vr_seq ?_
        refine vr_region (by kernel_rfl) ?_
        refine vl_det (det_move rfl) rfl ?_
        refine vl_call co29 rfl (bucket_dl hneX (by first | (exact Bor.own (by repeat (first | exact List.Mem.head _ | apply List.Mem.tail))) | (repeat (first | assumption | apply Bor.cons))) (by omega) h25X) rfl ?_
        rintro _ _ ⟨A30, c30, rfl, hLL⟩
        obtain rfl := hLL.symm
        refine vl_det (det_assign rfl) rfl ?_
        refine vl_end [(6, _), (7, _), (9, _)] ⟨rfl, rfl, rfl, trivial⟩ ?_
        refine nq ?_
        refine vr_seq ?_
        refine vr_held (S := F ++ F') (by kernel_rfl) (by kernel_rfl) (by repeat (first | exact List.Sublist.refl _ | exact List.nil_sublist _ | exact List.sublist_append_right _ _ | apply List.Sublist.cons_cons | apply List.Sublist.cons)) ?_
        refine vh_take 1 rfl (by kernel_rfl) (by kernel_rfl) (by kernel_rfl) (det_move rfl) rfl ?_
        refine vh_take 2 rfl (by kernel_rfl) (by kernel_rfl) (by kernel_rfl) (det_len_sl Tryz.underlying26 rfl) rfl ?_
        refine vh_take 3 rfl (by kernel_rfl) (by kernel_rfl) (by kernel_rfl) (det_conv Tryz.underlying3 Tryz.underlying39 rfl (w_u64 (by omega) (by omega))) rfl ?_
        refine vh_two 0 4 (by kernel_rfl) ?_ ?_
        · skip
          refine st_det rfl .no (det_load_blk (by kernel_rfl) rfl (by repeat (first | exact .hd | apply Sel.tl)) rfl) rfl (by repeat (first | exact List.Sublist.refl _ | exact List.nil_sublist _ | exact List.sublist_append_right _ _ | apply List.Sublist.cons_cons | apply List.Sublist.cons)) ?_
          refine vh_one 4 (by kernel_rfl) ?_
          refine st_call rfl .no co27 rfl (num_d (bucketT X).length (by omega)) rfl (by rintro _ _ ⟨A35, c35, rfl, rfl⟩; exact (by repeat (first | exact List.Sublist.refl _ | exact List.nil_sublist _ | exact List.sublist_append_right _ _ | apply List.Sublist.cons_cons | apply List.Sublist.cons))) ?_
          rintro _ _ ⟨A35, c35, rfl, hLL⟩
          obtain rfl := hLL.symm
          refine vh_one 5 (by kernel_rfl) ?_
          refine st_eff rfl .no (eff_app slT26 rfl (by repeat (first | exact .hd | apply Sel.tl)) rfl (by first | (exact Bor.own (by repeat (first | exact List.Mem.head _ | apply List.Mem.tail))) | (repeat (first | assumption | apply Bor.cons))) (by first | exact bv_one _ | exact strs_one _ | exact ints_one _ _ | (simp; done) | (simp [Value.oneCell']; done) | assumption) (by omega) (by omega)) rfl (by rintro _ _ ⟨A36, c36, rfl, rfl⟩; exact (by repeat (first | exact List.Sublist.refl _ | exact List.nil_sublist _ | exact List.sublist_append_right _ _ | apply List.Sublist.cons_cons | apply List.Sublist.cons))) ?_
          rintro _ _ ⟨A36, c36, rfl, rfl⟩
          refine vh_one 6 (by kernel_rfl) ?_
          refine st_eff0 rfl .no (eff_store (by kernel_rfl) rfl rfl rfl (by repeat (first | exact .hd | apply Sel.tl)) (by simp)) (by rintro _ _ rfl; exact (by repeat (first | exact List.Sublist.refl _ | exact List.nil_sublist _ | exact List.sublist_append_right _ _ | apply List.Sublist.cons_cons | apply List.Sublist.cons))) ?_
          rintro _ _ rfl
          refine vh_done [(7, _), (9, _)] ⟨rfl, rfl, trivial⟩ (by kernel_rfl) ?_
          refine nq ?_
          refine vr_region (by kernel_rfl) ?_
          refine vl_det (det_load_blk (by kernel_rfl) rfl (by repeat (first | exact .hd | apply Sel.tl)) rfl) rfl ?_
          refine vl_det (det_move rfl) rfl ?_
          refine vl_eff (eff_app slT26 rfl (by repeat (first | exact .hd | apply Sel.tl)) rfl (by first | (exact Bor.own (by repeat (first | exact List.Mem.head _ | apply List.Mem.tail))) | (repeat (first | assumption | apply Bor.cons))) (by first | exact bv_one _ | exact strs_one _ | exact ints_one _ _ | (simp; done) | (simp [Value.oneCell']; done) | assumption) (by omega) (by omega)) rfl ?_
          rintro _ _ ⟨A39, c39, rfl, rfl⟩
          refine vl_eff0 (eff_store (by kernel_rfl) rfl rfl rfl (by repeat (first | exact .hd | apply Sel.tl)) (by simp)) ?_
          rintro _ _ rfl
          refine vl_end [] trivial ?_
          refine nq ?_
          exact ⟨(A39, c39, A36, c36), trivial, .skip (.skip (.cons (.cons (wk_blk (by simp) (wk_own (by simp) (by simp) (wk_blk (by simp [Nat.add_assoc]) (wk_own (by simp [Nat.add_assoc]) (by simp) (.refl _))))))))⟩
        · skip
          refine st_call rfl .no co27 rfl (num_d (bucketT X).length (by omega)) rfl (by rintro _ _ ⟨A35, c35, rfl, rfl⟩; exact (by repeat (first | exact List.Sublist.refl _ | exact List.nil_sublist _ | exact List.sublist_append_right _ _ | apply List.Sublist.cons_cons | apply List.Sublist.cons))) ?_
          rintro _ _ ⟨A35, c35, rfl, hLL⟩
          obtain rfl := hLL.symm
          refine vh_one 0 (by kernel_rfl) ?_
          refine st_det rfl .no (det_load_blk (by kernel_rfl) rfl (by repeat (first | exact .hd | apply Sel.tl)) rfl) rfl (by repeat (first | exact List.Sublist.refl _ | exact List.nil_sublist _ | exact List.sublist_append_right _ _ | apply List.Sublist.cons_cons | apply List.Sublist.cons)) ?_
          refine vh_one 5 (by kernel_rfl) ?_
          refine st_eff rfl .no (eff_app slT26 rfl (by repeat (first | exact .hd | apply Sel.tl)) rfl (by first | (exact Bor.own (by repeat (first | exact List.Mem.head _ | apply List.Mem.tail))) | (repeat (first | assumption | apply Bor.cons))) (by first | exact bv_one _ | exact strs_one _ | exact ints_one _ _ | (simp; done) | (simp [Value.oneCell']; done) | assumption) (by omega) (by omega)) rfl (by rintro _ _ ⟨A36, c36, rfl, rfl⟩; exact (by repeat (first | exact List.Sublist.refl _ | exact List.nil_sublist _ | exact List.sublist_append_right _ _ | apply List.Sublist.cons_cons | apply List.Sublist.cons))) ?_
          rintro _ _ ⟨A36, c36, rfl, rfl⟩
          refine vh_one 6 (by kernel_rfl) ?_
          refine st_eff0 rfl .no (eff_store (by kernel_rfl) rfl rfl rfl (by repeat (first | exact .hd | apply Sel.tl)) (by simp)) (by rintro _ _ rfl; exact (by repeat (first | exact List.Sublist.refl _ | exact List.nil_sublist _ | exact List.sublist_append_right _ _ | apply List.Sublist.cons_cons | apply List.Sublist.cons))) ?_
          rintro _ _ rfl
          refine vh_done [(7, _), (9, _)] ⟨rfl, rfl, trivial⟩ (by kernel_rfl) ?_
          refine nq ?_
          refine vr_region (by kernel_rfl) ?_
          refine vl_det (det_load_blk (by kernel_rfl) rfl (by repeat (first | exact .hd | apply Sel.tl)) rfl) rfl ?_
          refine vl_det (det_move rfl) rfl ?_
          refine vl_eff (eff_app slT26 rfl (by repeat (first | exact .hd | apply Sel.tl)) rfl (by first | (exact Bor.own (by repeat (first | exact List.Mem.head _ | apply List.Mem.tail))) | (repeat (first | assumption | apply Bor.cons))) (by first | exact bv_one _ | exact strs_one _ | exact ints_one _ _ | (simp; done) | (simp [Value.oneCell']; done) | assumption) (by omega) (by omega)) rfl ?_
          rintro _ _ ⟨A39, c39, rfl, rfl⟩
          refine vl_eff0 (eff_store (by kernel_rfl) rfl rfl rfl (by repeat (first | exact .hd | apply Sel.tl)) (by simp)) ?_
          rintro _ _ rfl
          refine vl_end [] trivial ?_
          refine nq ?_
          exact ⟨(A39, c39, A36, c36), trivial, .skip (.skip (.cons (.cons (wk_blk (by simp) (wk_own (by simp) (by simp) (wk_blk (by simp [Nat.add_assoc]) (wk_own (by simp [Nat.add_assoc]) (by simp) (.refl _))))))))⟩
      · skip
        rintro D xs ⟨A7, c7, A6, c6⟩ hS _
        have hB1 := bodyT_len hs2 h25 (xs.map (·.val))
        have hH1 := headT_len hs2 h25 (xs.map (·.val))
        rw [hS] at hB1 hH1
        rw [List.length_range] at hB1 hH1
        simp only [hS]
        have hBl : (dictB sz l).length ≤ 10000000000 := by
          have := Nat.mul_le_mul_right 3000 hNl
          have := Nat.mul_le_mul_right 10 hNl
          unfold dictB
          rw [List.length_append, List.length_append]
          omega
        refine vm_seq ?_
        refine vl_det (det_load_blk (by kernel_rfl) rfl (by repeat (first | exact .hd | apply Sel.tl)) rfl) rfl ?_
        refine vl_det (det_load_blk (by kernel_rfl) rfl (by repeat (first | exact .hd | apply Sel.tl)) rfl) rfl ?_
        refine vl_eff (eff_build_lit slT44 [_, _] rfl rfl (by first | exact bv_one _ | exact strs_one _ | exact ints_one _ _ | (simp; done) | (simp [Value.oneCell']; done) | assumption) (by omega) (by omega)) rfl ?_
        rintro _ _ ⟨A42, rfl, rfl⟩
        refine vl_call co14 rfl (all_d (l := dictB sz l) (P := [(.slice A6 (encN l.length ++ headT l sz (List.range (chN sz l.length))).length c6, encN l.length ++ headT l sz (List.range (chN sz l.length))), (.slice A7 (bodyT l sz (List.range (chN sz l.length))).length c7, bodyT l sz (List.range (chN sz l.length)))]) (by first | (exact Bor.own (by repeat (first | exact List.Mem.head _ | apply List.Mem.tail))) | (repeat (first | assumption | apply Bor.cons))) (by intro y hy; simp only [List.mem_cons, List.not_mem_nil, or_false] at hy; rcases hy with rfl | rfl <;> exact (by first | (exact Bor.own (by repeat (first | exact List.Mem.head _ | apply List.Mem.tail))) | (repeat (first | assumption | apply Bor.cons)))) rfl (by simp [Parts.all, dictB]) (by omega) (by simp)) rfl ?_
        rintro _ _ ⟨A43, c43, rfl, hLL⟩
        obtain rfl := hLL.symm
        refine vl_det (det_assign rfl) rfl ?_
        refine vl_det (det_assign rfl) rfl ?_
        refine vl_end [(4, _), (5, _)] ⟨rfl, rfl, trivial⟩ ?_
        refine nq ?_
        refine vm_ret rfl ((pu2 (pu0 (pu0 (.refl _))))) ?_
        refine ret_wk (L' := .own 5 1 A43 (dictB sz l).length c43 (bv (dictB sz l)) :: F) (.cons (.skip (.skip (.skip (.skip (.skip (.skip (.skip (.refl _))))))))) ?_
        refine ret2 rfl rfl rfl ?_
        exact ⟨A43, c43, rfl, rfl⟩
end Go.Proofs.YtpamjobiohbibaaGreat
namespace Go.Proofs.YtpamjobiohbibaaGreat
open Go.RowKit
set_option linter.unusedVariables false
set_option maxRecDepth 20000
variable {B : Nat} {w0 : World} {F : List Ch} {A A2 : Option Addr} {n n2 c c2 : Nat}
theorem same_d {l l2 : List UInt8} (h1 : Bor B w0 F 1 (.slice A n c) n (bv l)) (h2 : Bor B w0 F 1 (.slice A2 n2 c2) n2 (bv l2)) :
    Does Tryz.prog B w0 9 [.slice A n c, .slice A2 n2 c2] F (fun r L => r = .bool (decide (l = l2)) ∧ L = F) := by
  refine fn_walk Tryz.func9 10 rfl rfl rfl [(0, .slice A n c), (1, .slice A2 n2 c2)] ⟨⟨rfl, rfl⟩, ⟨rfl, rfl⟩, trivial⟩ ?_
  refine vc_seq ?_
  refine vc_region ?_
  refine vl_det (det_assign rfl) rfl ?_
  refine vl_end [(0, _), (1, _)] ⟨rfl, rfl, trivial⟩ ?_
  refine then_next ?_
  refine vc_seq ?_
  refine vc_region ?_
  refine vl_det (det_move rfl) rfl ?_
  refine vl_det (det_bstr Tryz.underlying26 Tryz.underlying5 Tryz.underlying9 rfl (by first | (exact Bor.own (by repeat (first | exact List.Mem.head _ | apply List.Mem.tail))) | (repeat (first | assumption | apply Bor.cons)))) rfl ?_
  refine vl_det (det_move rfl) rfl ?_
  refine vl_det (det_bstr Tryz.underlying26 Tryz.underlying5 Tryz.underlying9 rfl (by first | (exact Bor.own (by repeat (first | exact List.Mem.head _ | apply List.Mem.tail))) | (repeat (first | assumption | apply Bor.cons)))) rfl ?_
  refine vl_det (det_s_eql rfl rfl) rfl ?_
  refine vl_det (det_assign rfl) rfl ?_
  refine vl_end [(4, _)] ⟨rfl, trivial⟩ ?_
  refine then_next ?_
  refine vc_ret ?_
  refine ret1 rfl rfl ?_
  exact ⟨rfl, rfl⟩
end Go.Proofs.YtpamjobiohbibaaGreat
namespace Go.Proofs.YtpamjobiohbibaaGreat
open Go.RowKit
set_option linter.unusedVariables false
set_option maxRecDepth 20000
section
variable {C : Cx} {fr : Fr} {L : List Ch} {f : Ch → List Ch} {x : Operand} {t ty e : TypeId} {A : Option Addr} {n c : Nat} {xs : List Value}
theorem Bor.obj {B : Nat} {w0 : World} {g : Nat} {cur : Array Value} {k : Nat × Nat} (h : Ch.obj g (.cells cur e k) ∈ L) (h2 : n ≤ c) (hx : cur.toList.take n = xs) (hl : xs.length = n) : Bor B w0 L 1 (.slice (some ⟨g, 0, none⟩) n c) n xs := fun w hs => by
  have hh := (hs.all _ h).2
  refine ⟨_, _, rfl, h2, by omega, fun _ => ⟨_, rfl, (Array.getElem?_eq_some_iff.1 hh).1, fun j u hu => ?_⟩⟩
  rw [Addr.add_lit, Nat.zero_add, cell_of_row w g j cur e k hh]
  rw [← hx, List.getElem?_take] at hu
  split at hu
  · simpa using hu
  · cases hu
end
end Go.Proofs.YtpamjobiohbibaaGreat
namespace Go.Proofs.YtpamjobiohbibaaGreat
open Go.RowKit
set_option linter.unusedVariables false
set_option maxRecDepth 20000
variable {B : Nat} {w0 : World} {F : List Ch} {A A1 A2 : Option Addr} {n c c1 c2 g : Nat}
/-! nil dictionaries -/
end Go.Proofs.YtpamjobiohbibaaGreat
namespace Go.Proofs.YtpamjobiohbibaaGreat
open Go.RowKit
set_option linter.unusedVariables false
set_option maxRecDepth 20000
variable {B : Nat} {w0 : World} {F : List Ch}
end Go.Proofs.YtpamjobiohbibaaGreat
namespace Go.Proofs.YtpamjobiohbibaaGreat
open Go.RowKit
set_option linter.unusedVariables false
set_option maxRecDepth 20000
variable {B : Nat} {w0 : World} {F : List Ch} {A A1 A2 : Option Addr} {n c c1 c2 g : Nat}
/-- texts are too many or too long -/
def grT (l : List Txt) : Prop := 300 < l.length ∨ ∃ i, i < l.length ∧ 60 < (l.getD i []).length
instance (l : List Txt) : Decidable (grT l) := inferInstanceAs (Decidable (_ ∨ _))
theorem may0 {l : List Txt} {k : Nat} (h0 : k = 0) (h1 : 1 ≤ (l.getD k []).length) (h2 : (l.getD k []).length ≤ 25) : mayT (prvT l k) (l.getD k []) := by
  subst h0
  have hne : l.getD 0 [] ≠ [] := fun e => by rw [e] at h1; simp at h1
  exact ⟨hne, h2, not_leT_nil hne⟩
theorem may1 {l : List Txt} {k : Nat} (h0 : 0 < k) (h1 : 1 ≤ (l.getD k []).length) (h2 : (l.getD k []).length ≤ 25) : leT (l.getD k []) (l.getD (k - 1) []) ↔ ¬ mayT (prvT l k) (l.getD k []) := by
  have hne : l.getD k [] ≠ [] := fun e => by rw [e] at h1; simp at h1
  have hp : prvT l k = l.getD (k - 1) [] := by unfold prvT; rw [if_neg (by omega)]
  rw [hp]
  exact ⟨fun h hm => hm.2.2 h, fun h => Classical.byContradiction fun hn => h ⟨hne, h2, hn⟩⟩
theorem rmayT_d {l : List Txt} (hb : Bor B w0 F 1 (.slice A l.length c) l.length (strs l)) (hl : l.length ≤ 1000000000000000) :
    Does Tryz.prog B w0 21 [.slice A l.length c] F (fun r L => r = .bool (decide (RisT l)) ∧ L = F) := by
  refine fn_walk Tryz.func21 43 rfl rfl rfl [(0, .slice A l.length c)] ⟨⟨rfl, rfl⟩, trivial⟩ ?_
  refine vc_seq ?_
  refine vc_region ?_
  refine vl_det (det_assign rfl) rfl ?_
  refine vl_end [(0, _)] ⟨rfl, trivial⟩ ?_
  refine then_next ?_
  refine vc_seq ?_
  refine vc_seq ?_
  refine vc_region ?_
  refine vl_det (det_move rfl) rfl ?_
  refine vl_det (det_len_sl Tryz.underlying22 rfl) rfl ?_
  refine vl_det (det_gtr rfl rfl) rfl ?_
  refine vl_end [(0, _), (6, _)] ⟨rfl, rfl, trivial⟩ ?_
  refine then_next ?_
  refine vc_decideU rfl (fun h6 => ?_) (fun h6 => ?_)
  · skip
    refine vc_seq ?_
    refine vc_region ?_
    refine vl_det (det_assign rfl) rfl ?_
    refine vl_end [(2, _)] ⟨rfl, trivial⟩ ?_
    refine then_next ?_
    refine vc_ret ?_
    refine then_ret ?_
    refine ret1 rfl rfl ?_
    exact ⟨by rw [decide_eq_false (fun h => by have := h.2; omega)], rfl⟩
  · skip
    refine vc_skip ?_
    refine then_next ?_
    refine vc_seq ?_
    refine vc_seq ?_
    refine vc_region ?_
    refine vl_det (det_assign rfl) rfl ?_
    refine vl_end [(0, _), (3, _)] ⟨rfl, rfl, trivial⟩ ?_
    refine then_next ?_
    refine vc_block ?_
    refine vc_loopJ (fun zf zL zm => ∃ (k : Nat), (k ≤ l.length ∧ ∀ i, i < k → mayT (prvT l i) (l.getD i [])) ∧ l.length - k = zm ∧ Sub zf [(0, .slice A l.length c), (3, .int .i64 k)] ∧ Wk zL (F)) _ ⟨0, ⟨Nat.zero_le _, fun i h => absurd h (by omega)⟩, rfl, ⟨(by first | rfl | exact int_to (by omega) | exact sl_to (by omega)), (by first | rfl | exact int_to (by omega) | exact sl_to (by omega)), trivial⟩, .refl _⟩ ?_
    rintro _ _ _ ⟨k, ⟨hk, hm⟩, rfl, hs, hp⟩
    refine vc_weaken _ hs (vc_wk hp ?_)
    clear hs hp
    refine vc_seq ?_
    refine vc_seq ?_
    refine vc_region ?_
    refine vl_det (det_move rfl) rfl ?_
    refine vl_det (det_move rfl) rfl ?_
    refine vl_det (det_len_sl Tryz.underlying22 rfl) rfl ?_
    refine vl_det (det_lss rfl rfl) rfl ?_
    refine vl_end [(0, _), (3, _), (10, _)] ⟨rfl, rfl, rfl, trivial⟩ ?_
    refine then_next ?_
    refine vc_decideU rfl (fun h10 => ?_) (fun h10 => ?_)
    · skip
      refine vc_skip ?_
      refine then_next ?_
      refine vc_seq ?_
      refine vc_block ?_
      refine vc_seq ?_
      refine vq_region (by kernel_rfl) (by kernel_rfl) ?_
      refine vq_cut 30 42 [(0, _), (3, _)] (¬ mayT (prvT l k) (l.getD k [])) ⟨rfl, rfl, trivial⟩ ?_ ?_
      · skip
        refine vq_det (det_move rfl) rfl ?_
        refine vq_det (det_move rfl) rfl ?_
        refine vq_det (det_indexAddr (size := 1) Tryz.underlying22 (by kernel_rfl) rfl rfl rfl (by omega) (by first | (exact Bor.own (by repeat (first | exact List.Mem.head _ | apply List.Mem.tail))) | (repeat (first | assumption | apply Bor.cons)))) rfl ?_
        refine vq_det (det_load_str (by kernel_rfl) rfl (by first | (exact Bor.own (by repeat (first | exact List.Mem.head _ | apply List.Mem.tail))) | (repeat (first | assumption | apply Bor.cons))) (by omega)) rfl ?_
        refine vq_det (det_len_s Tryz.underlying9 rfl) rfl ?_
        refine vq_det (det_lss rfl rfl) rfl ?_
        refine vq_det (det_move rfl) rfl ?_
        refine vq_guardn rfl rfl rfl (fun h19 => ?_) (fun h19 => ?_)
        · skip
          refine vq_det (det_move rfl) rfl ?_
          refine vq_guard_t rfl rfl ?_
          refine vq_det (det_move rfl) rfl ?_
          refine vq_guard_t rfl rfl ?_
          refine vq_det (det_indexAddr (size := 1) Tryz.underlying22 (by kernel_rfl) rfl rfl rfl (by omega) (by first | (exact Bor.own (by repeat (first | exact List.Mem.head _ | apply List.Mem.tail))) | (repeat (first | assumption | apply Bor.cons)))) rfl ?_
          refine vq_guard_t rfl rfl ?_
          refine vq_det (det_load_str (by kernel_rfl) rfl (by first | (exact Bor.own (by repeat (first | exact List.Mem.head _ | apply List.Mem.tail))) | (repeat (first | assumption | apply Bor.cons))) (by omega)) rfl ?_
          refine vq_guard_t rfl rfl ?_
          refine vq_det (det_len_s Tryz.underlying9 rfl) rfl ?_
          refine vq_guard_t rfl rfl ?_
          refine vq_det (det_gtr rfl rfl) rfl ?_
          refine vq_det (det_pick_f rfl rfl) rfl ?_
          refine vq_det (det_move rfl) rfl ?_
          refine vq_guardn rfl rfl rfl (fun h27 => ?_) (fun h27 => ?_)
          · skip
            refine vq_det (det_move rfl) rfl ?_
            refine vq_guard_t rfl rfl ?_
            refine vq_det (det_gtr rfl rfl) rfl ?_
            refine vq_guard_t rfl rfl ?_
            refine vq_det (det_move rfl) rfl ?_
            refine vq_guardp rfl rfl rfl (fun h30 => ?_) (fun h30 => ?_)
            · skip
              refine vq_det (det_move rfl) rfl ?_
              refine vq_guard_t rfl rfl ?_
              refine vq_det (det_move rfl) rfl ?_
              refine vq_guard_t rfl rfl ?_
              refine vq_det (det_indexAddr (size := 1) Tryz.underlying22 (by kernel_rfl) rfl rfl rfl (by omega) (by first | (exact Bor.own (by repeat (first | exact List.Mem.head _ | apply List.Mem.tail))) | (repeat (first | assumption | apply Bor.cons)))) rfl ?_
              refine vq_guard_t rfl rfl ?_
              refine vq_det (det_load_str (by kernel_rfl) rfl (by first | (exact Bor.own (by repeat (first | exact List.Mem.head _ | apply List.Mem.tail))) | (repeat (first | assumption | apply Bor.cons))) (by omega)) rfl ?_
              refine vq_guard_t rfl rfl ?_
              refine vq_det (det_move rfl) rfl ?_
              refine vq_guard_t rfl rfl ?_
              refine vq_det (det_move rfl) rfl ?_
              refine vq_guard_t rfl rfl ?_
              refine vq_det (det_sub rfl rfl (w_i64 (by omega) (by omega))) rfl ?_
              refine vq_guard_t rfl rfl ?_
              refine vq_det (det_indexAddr (i := k - 1) (size := 1) Tryz.underlying22 (by kernel_rfl) rfl rfl (by omega) (by omega) (by first | (exact Bor.own (by repeat (first | exact List.Mem.head _ | apply List.Mem.tail))) | (repeat (first | assumption | apply Bor.cons)))) rfl ?_
              refine vq_guard_t rfl rfl ?_
              refine vq_det (det_load_str (b := l) (j := k - 1) (by kernel_rfl) rfl (by first | (exact Bor.own (by repeat (first | exact List.Mem.head _ | apply List.Mem.tail))) | (repeat (first | assumption | apply Bor.cons))) (by omega)) rfl ?_
              refine vq_guard_t rfl rfl ?_
              refine vq_det (det_s_leqD rfl rfl) rfl ?_
              refine vq_guard_t rfl rfl ?_
              refine vq_det (det_pick_t rfl rfl) rfl ?_
              refine vq_det (det_pick_f rfl rfl) rfl ?_
              exact vq_cut_end ⟨rfl, rfl, trivial⟩ (by first | rfl | exact bool_to_t (by first | exact fun h => h.1 (List.length_eq_zero_iff.1 (by omega)) | exact fun h => absurd h.2.1 (by omega) | exact fun h => h (may0 (by omega) (by omega) (by omega)) | exact may1 (by omega) (by omega) (by omega)) | exact bool_to_f (by first | exact fun h => h.1 (List.length_eq_zero_iff.1 (by omega)) | exact fun h => absurd h.2.1 (by omega) | exact fun h => h (may0 (by omega) (by omega) (by omega)) | exact may1 (by omega) (by omega) (by omega)) | exact bool_to (by first | exact fun h => h.1 (List.length_eq_zero_iff.1 (by omega)) | exact fun h => absurd h.2.1 (by omega) | exact fun h => h (may0 (by omega) (by omega) (by omega)) | exact may1 (by omega) (by omega) (by omega)) | exact bool_to_b (by first | exact fun h => h.1 (List.length_eq_zero_iff.1 (by omega)) | exact fun h => absurd h.2.1 (by omega) | exact fun h => h (may0 (by omega) (by omega) (by omega)) | exact may1 (by omega) (by omega) (by omega)))
            · skip
              refine vq_guard_f rfl rfl rfl rfl ?_
              refine vq_guard_f rfl rfl rfl rfl ?_
              refine vq_guard_f rfl rfl rfl rfl ?_
              refine vq_guard_f rfl rfl rfl rfl ?_
              refine vq_guard_f rfl rfl rfl rfl ?_
              refine vq_guard_f rfl rfl rfl rfl ?_
              refine vq_guard_f rfl rfl rfl rfl ?_
              refine vq_guard_f rfl rfl rfl rfl ?_
              refine vq_guard_f rfl rfl rfl rfl ?_
              refine vq_guard_t rfl rfl ?_
              refine vq_det (det_pick_f rfl rfl) rfl ?_
              refine vq_det (det_pick_f rfl rfl) rfl ?_
              exact vq_cut_end ⟨rfl, rfl, trivial⟩ (by first | rfl | exact bool_to_t (by first | exact fun h => h.1 (List.length_eq_zero_iff.1 (by omega)) | exact fun h => absurd h.2.1 (by omega) | exact fun h => h (may0 (by omega) (by omega) (by omega)) | exact may1 (by omega) (by omega) (by omega)) | exact bool_to_f (by first | exact fun h => h.1 (List.length_eq_zero_iff.1 (by omega)) | exact fun h => absurd h.2.1 (by omega) | exact fun h => h (may0 (by omega) (by omega) (by omega)) | exact may1 (by omega) (by omega) (by omega)) | exact bool_to (by first | exact fun h => h.1 (List.length_eq_zero_iff.1 (by omega)) | exact fun h => absurd h.2.1 (by omega) | exact fun h => h (may0 (by omega) (by omega) (by omega)) | exact may1 (by omega) (by omega) (by omega)) | exact bool_to_b (by first | exact fun h => h.1 (List.length_eq_zero_iff.1 (by omega)) | exact fun h => absurd h.2.1 (by omega) | exact fun h => h (may0 (by omega) (by omega) (by omega)) | exact may1 (by omega) (by omega) (by omega)))
          · skip
            refine vq_guard_f rfl rfl rfl rfl ?_
            refine vq_guard_f rfl rfl rfl rfl ?_
            refine vq_guard_u rfl rfl rfl ?_
            refine vq_guard_u rfl rfl rfl ?_
            refine vq_guard_u rfl rfl rfl ?_
            refine vq_guard_u rfl rfl rfl ?_
            refine vq_guard_u rfl rfl rfl ?_
            refine vq_guard_u rfl rfl rfl ?_
            refine vq_guard_u rfl rfl rfl ?_
            refine vq_guard_u rfl rfl rfl ?_
            refine vq_guard_u rfl rfl rfl ?_
            refine vq_guard_u rfl rfl rfl ?_
            refine vq_guard_f rfl rfl rfl rfl ?_
            refine vq_det (det_pick_t rfl rfl) rfl ?_
            exact vq_cut_end ⟨rfl, rfl, trivial⟩ (by first | rfl | exact bool_to_t (by first | exact fun h => h.1 (List.length_eq_zero_iff.1 (by omega)) | exact fun h => absurd h.2.1 (by omega) | exact fun h => h (may0 (by omega) (by omega) (by omega)) | exact may1 (by omega) (by omega) (by omega)) | exact bool_to_f (by first | exact fun h => h.1 (List.length_eq_zero_iff.1 (by omega)) | exact fun h => absurd h.2.1 (by omega) | exact fun h => h (may0 (by omega) (by omega) (by omega)) | exact may1 (by omega) (by omega) (by omega)) | exact bool_to (by first | exact fun h => h.1 (List.length_eq_zero_iff.1 (by omega)) | exact fun h => absurd h.2.1 (by omega) | exact fun h => h (may0 (by omega) (by omega) (by omega)) | exact may1 (by omega) (by omega) (by omega)) | exact bool_to_b (by first | exact fun h => h.1 (List.length_eq_zero_iff.1 (by omega)) | exact fun h => absurd h.2.1 (by omega) | exact fun h => h (may0 (by omega) (by omega) (by omega)) | exact may1 (by omega) (by omega) (by omega)))
        · skip
          refine vq_guard_f rfl rfl rfl rfl ?_
          refine vq_guard_f rfl rfl rfl rfl ?_
          refine vq_guard_f rfl rfl rfl rfl ?_
          refine vq_guard_f rfl rfl rfl rfl ?_
          refine vq_guard_f rfl rfl rfl rfl ?_
          refine vq_det (det_pick_t rfl rfl) rfl ?_
          refine vq_det (det_move rfl) rfl ?_
          refine vq_guard_f rfl rfl rfl rfl ?_
          refine vq_guard_f rfl rfl rfl rfl ?_
          refine vq_guard_f rfl rfl rfl rfl ?_
          refine vq_guard_u rfl rfl rfl ?_
          refine vq_guard_u rfl rfl rfl ?_
          refine vq_guard_u rfl rfl rfl ?_
          refine vq_guard_u rfl rfl rfl ?_
          refine vq_guard_u rfl rfl rfl ?_
          refine vq_guard_u rfl rfl rfl ?_
          refine vq_guard_u rfl rfl rfl ?_
          refine vq_guard_u rfl rfl rfl ?_
          refine vq_guard_u rfl rfl rfl ?_
          refine vq_guard_u rfl rfl rfl ?_
          refine vq_guard_f rfl rfl rfl rfl ?_
          refine vq_det (det_pick_t rfl rfl) rfl ?_
          exact vq_cut_end ⟨rfl, rfl, trivial⟩ (by first | rfl | exact bool_to_t (by first | exact fun h => h.1 (List.length_eq_zero_iff.1 (by omega)) | exact fun h => absurd h.2.1 (by omega) | exact fun h => h (may0 (by omega) (by omega) (by omega)) | exact may1 (by omega) (by omega) (by omega)) | exact bool_to_f (by first | exact fun h => h.1 (List.length_eq_zero_iff.1 (by omega)) | exact fun h => absurd h.2.1 (by omega) | exact fun h => h (may0 (by omega) (by omega) (by omega)) | exact may1 (by omega) (by omega) (by omega)) | exact bool_to (by first | exact fun h => h.1 (List.length_eq_zero_iff.1 (by omega)) | exact fun h => absurd h.2.1 (by omega) | exact fun h => h (may0 (by omega) (by omega) (by omega)) | exact may1 (by omega) (by omega) (by omega)) | exact bool_to_b (by first | exact fun h => h.1 (List.length_eq_zero_iff.1 (by omega)) | exact fun h => absurd h.2.1 (by omega) | exact fun h => h (may0 (by omega) (by omega) (by omega)) | exact may1 (by omega) (by omega) (by omega)))
      · skip
        refine vq_end [(0, _), (3, _), (42, _)] ⟨rfl, rfl, rfl, trivial⟩ ?_
        refine then_next ?_
        refine vc_decideU rfl (fun h42 => ?_) (fun h42 => ?_)
        · skip
          refine vc_seq ?_
          refine vc_region ?_
          refine vl_det (det_assign rfl) rfl ?_
          refine vl_end [(2, _)] ⟨rfl, trivial⟩ ?_
          refine then_next ?_
          refine vc_ret ?_
          refine in_ret ?_
          refine then_ret ?_
          refine loop_ret ?_
          refine in_ret ?_
          refine then_ret ?_
          refine ret1 rfl rfl ?_
          exact ⟨by rw [decide_eq_false (fun h => h42 (h.1 k (by omega)))], rfl⟩
        · skip
          refine vc_skip ?_
          refine in_normal ?_
          refine then_next ?_
          refine vc_region ?_
          refine vl_det (det_move rfl) rfl ?_
          refine vl_det (det_add rfl rfl (w_i64 (by omega) (by omega))) rfl ?_
          refine vl_det (det_assign rfl) rfl ?_
          refine vl_end [(0, _), (3, _)] ⟨rfl, rfl, trivial⟩ ?_
          refine in_loop_ ⟨_, by omega, k + 1, ⟨by omega, fun i hi => by
            by_cases e : i = k
            · rw [e]; exact Classical.not_not.1 h42
            · exact hm i (by omega)⟩, rfl, ⟨(by first | rfl | exact int_to (by omega) | exact sl_to (by omega)), (by first | rfl | exact int_to (by omega) | exact sl_to (by omega)), trivial⟩, .refl _⟩
    · skip
      refine vc_exit ?_
      refine then_exit ?_
      refine loop_exit ?_
      refine in_eq ?_
      refine then_next ?_
      refine vc_seq ?_
      refine vc_region ?_
      refine vl_det (det_assign rfl) rfl ?_
      refine vl_end [(2, _)] ⟨rfl, trivial⟩ ?_
      refine then_next ?_
      refine vc_ret ?_
      refine ret1 rfl rfl ?_
      have e : k = l.length := by omega
      subst e
      exact ⟨by rw [decide_eq_true ⟨hm, by omega⟩], rfl⟩
end Go.Proofs.YtpamjobiohbibaaGreat
namespace Go.Proofs.YtpamjobiohbibaaGreat
open Go.RowKit
set_option linter.unusedVariables false
set_option maxRecDepth 20000
variable {B : Nat} {w0 : World} {F : List Ch} {A A1 A2 : Option Addr} {n c c1 c2 g : Nat}
end Go.Proofs.YtpamjobiohbibaaGreat
namespace Go.Proofs.YtpamjobiohbibaaGreat
def bitn (q : List Bool) (i : Nat) : Nat := (q.getD i false).toNat
theorem bitn_le (q : List Bool) (i : Nat) : bitn q i ≤ 1 := Bool.toNat_le _
/-- the number that 'm' bits from place 'i' on are, bits 0 behind the end -/
def part (q : List Bool) (i : Nat) : Nat → Nat
  | 0 => 0
  | m + 1 => 2 * part q i m + bitn q (i + m)
theorem part_lt (q : List Bool) (i : Nat) : ∀ m, part q i m < 2 ^ m
  | 0 => by simp [part]
  | m + 1 => by have := part_lt q i m; have := bitn_le q (i + m); simp only [part, Nat.pow_succ]; omega
def octet (q : List Bool) (k : Nat) : UInt8 := UInt8.ofNat (part q (8 * k) 8)
theorem octet_nat (q : List Bool) (k : Nat) : (octet q k).toNat = part q (8 * k) 8 := by
  have := part_lt q (8 * k) 8
  rw [octet, UInt8.toNat_ofNat']
  exact Nat.mod_eq_of_lt this
def octets (q : List Bool) (k : Nat) : List UInt8 := (List.range k).map (octet q)
theorem octets_length (q : List Bool) (k : Nat) : (octets q k).length = k := by simp [octets]
theorem octets_succ (q : List Bool) (k : Nat) : octets q (k + 1) = octets q k ++ [octet q k] := by simp [octets, List.range_succ]
def packed (q : List Bool) : List UInt8 := octets q ((q.length + 7) / 8)
theorem packed_length (q : List Bool) : (packed q).length = (q.length + 7) / 8 := octets_length _ _
theorem octets_get (q : List Bool) {n k : Nat} (h : k < n) : (octets q n).getD k 0 = octet q k := by
  simp [octets, List.getD_eq_getElem?_getD, h]
theorem bitn_app (q : List Bool) (b : Bool) (i : Nat) : bitn (q ++ [b]) i = if i = q.length then b.toNat else bitn q i := by
  unfold bitn
  split
  · subst i; simp [List.getD_eq_getElem?_getD]
  · simp only [List.getD_eq_getElem?_getD, List.getElem?_append]
    split
    · rfl
    · rw [List.getElem?_eq_none (by simp; omega), List.getElem?_eq_none (by omega)]
theorem bitn_out (q : List Bool) {i : Nat} (h : q.length ≤ i) : bitn q i = 0 := by
  simp [bitn, List.getD_eq_getElem?_getD, h]
theorem part_keep (q : List Bool) (b : Bool) (i : Nat) : ∀ m, (q.length < i ∨ i + m ≤ q.length) → part (q ++ [b]) i m = part q i m
  | 0, _ => rfl
  | m + 1, h => by
    rw [part, part, part_keep q b i m (by omega), bitn_app, if_neg (by omega)]
theorem part_zero (q : List Bool) (i : Nat) : ∀ m, q.length ≤ i → part q i m = 0
  | 0, _ => rfl
  | m + 1, h => by rw [part, part_zero q i m h, bitn_out q (by omega)]
/-- a bit more in the midst: the bits behind are 0 -/
theorem part_tail (q : List Bool) (i m : Nat) (h : i + m = q.length) : ∀ j, part q i (m + j) = part q i m * 2 ^ j
  | 0 => by simp
  | j + 1 => by
    rw [← Nat.add_assoc, part, part_tail q i m h j, bitn_out q (by omega), Nat.pow_succ]
    rw [Nat.mul_comm 2, Nat.mul_assoc]; rfl
theorem part_set (q : List Bool) (b : Bool) (i m : Nat) (h : i + m = q.length) (j : Nat) : part (q ++ [b]) i (m + 1 + j) = part q i (m + 1 + j) ||| b.toNat * 2 ^ j := by
  rw [part_tail (q ++ [b]) i (m + 1) (by simp; omega), Nat.add_assoc, part_tail q i m h, part, part_keep q b i m (by omega), bitn_app, if_pos h, Nat.add_comm 1 j]
  have hb := Bool.toNat_le b
  have e : part q i m * 2 ^ (j + 1) = 2 ^ (j + 1) * part q i m := Nat.mul_comm _ _
  rw [e, ← Nat.two_pow_add_eq_or_of_lt (by rw [Nat.pow_succ]; have := Nat.two_pow_pos j; rcases b with _ | _ <;> simp <;> omega), Nat.add_mul, Nat.pow_succ]
  congr 1
  rw [Nat.mul_comm 2 (part q i m), Nat.mul_assoc, Nat.mul_comm 2 (2 ^ j), Nat.mul_comm (part q i m)]
theorem octet_eq {q q' : List Bool} {k : Nat} (h : part q (8 * k) 8 = part q' (8 * k) 8) : octet q k = octet q' k := by rw [octet, octet, h]
theorem octets_keep (q : List Bool) (b : Bool) {n : Nat} (h : 8 * n ≤ q.length) : octets (q ++ [b]) n = octets q n := by
  simp only [octets]
  apply List.map_congr_left
  intro k hk
  have := List.mem_range.mp hk
  exact octet_eq (part_keep q b _ _ (by omega))
/-- the row of bytes with room for one more bit -/
def room (q : List Bool) : List UInt8 := octets q (q.length / 8 + 1)
theorem room_length (q : List Bool) : (room q).length = q.length / 8 + 1 := octets_length _ _
theorem room_new {q : List Bool} (h : q.length % 8 = 0) : packed q ++ [0] = room q := by
  rw [packed, room, show (q.length + 7) / 8 = q.length / 8 by omega, octets_succ]
  congr 2
  rw [octet, part_zero q _ _ (by omega)]; rfl
theorem room_old {q : List Bool} (h : ¬ q.length % 8 = 0) : packed q = room q := by
  rw [packed, room, show (q.length + 7) / 8 = q.length / 8 + 1 by omega]
theorem room_get (q : List Bool) : ((room q).getD (q.length / 8) 0).toNat = part q (8 * (q.length / 8)) 8 := by
  rw [room, octets_get q (by omega), octet_nat]
theorem or_u8 {a b : Nat} (ha : a < 256) (hb : b < 256) : IntKind.u8.wrap ((BitVec.ofInt IntKind.u8.bits (a : Int) ||| BitVec.ofInt IntKind.u8.bits (b : Int)).toNat : Int) = ((a ||| b : Nat) : Int) := u8_or a b ha hb
theorem and_u64 {a b : Nat} (ha : a < 18446744073709551616) (hb : b < 18446744073709551616) : IntKind.u64.wrap ((BitVec.ofInt IntKind.u64.bits (a : Int) &&& BitVec.ofInt IntKind.u64.bits (b : Int)).toNat : Int) = ((a &&& b : Nat) : Int) := u64_and a b ha hb
theorem or_u64 {a b : Nat} (ha : a < 18446744073709551616) (hb : b < 18446744073709551616) : IntKind.u64.wrap ((BitVec.ofInt IntKind.u64.bits (a : Int) ||| BitVec.ofInt IntKind.u64.bits (b : Int)).toNat : Int) = ((a ||| b : Nat) : Int) := u64_or a b ha hb
theorem part_now (q : List Bool) (b : Bool) : part q (8 * (q.length / 8)) 8 ||| b.toNat * 2 ^ (7 - q.length % 8) = part (q ++ [b]) (8 * (q.length / 8)) 8 := by
  have := part_set q b (8 * (q.length / 8)) (q.length % 8) (by omega) (7 - q.length % 8)
  rw [show q.length % 8 + 1 + (7 - q.length % 8) = 8 by omega] at this
  exact this.symm
theorem room_set (q : List Bool) (b : Bool) : (room q).set (q.length / 8) (octet (q ++ [b]) (q.length / 8)) = packed (q ++ [b]) := by
  rw [packed, room, octets_succ, List.set_append_right _ _ (by rw [octets_length]; omega), octets_length, Nat.sub_self, List.length_append, List.length_singleton,
    show (q.length + 1 + 7) / 8 = q.length / 8 + 1 by omega, octets_succ, octets_keep q b (by omega)]
  rfl
theorem sh_u8 {b : Bool} {m : Nat} (h : m < 8) : IntKind.u8.wrap ((b.toNat : Int) * 2 ^ min (7 - (m : Int)).toNat IntKind.u8.bits) = ((b.toNat * 2 ^ (7 - m) : Nat) : Int) := by
  have : ∀ (b : Bool) (m : Fin 8), IntKind.u8.wrap ((b.toNat : Int) * 2 ^ min (7 - ((m : Nat) : Int)).toNat IntKind.u8.bits) = ((b.toNat * 2 ^ (7 - m.val) : Nat) : Int) := by decide +kernel
  exact this b ⟨m, h⟩
theorem sh_lt {b : Bool} {m : Nat} : b.toNat * 2 ^ (7 - m) < 256 := by
  have : 2 ^ (7 - m) ≤ 2 ^ 7 := Nat.pow_le_pow_right (by omega) (by omega)
  rcases b with _ | _ <;> simp <;> omega
theorem tmod8 (n : Nat) : (n : Int).tmod 8 = ((n % 8 : Nat) : Int) := by rw [Int.tmod_eq_emod_of_nonneg (by omega)]; omega
theorem quo8 {n : Nat} (h : n ≤ 9000000000000000000) : IntKind.i64.wrap ((n : Int).tdiv 8) = ((n / 8 : Nat) : Int) := by
  have : (n : Int).tdiv 8 = ((n / 8 : Nat) : Int) := (Int.ofNat_tdiv n 8).symm
  rw [this]; exact w_i64 (by omega) (by omega)
theorem or_now (q : List Bool) (b : Bool) : IntKind.u8.wrap ((BitVec.ofInt IntKind.u8.bits ((((room q).getD (q.length / 8) 0).toNat : Nat) : Int) ||| BitVec.ofInt IntKind.u8.bits ((b.toNat * 2 ^ (7 - q.length % 8) : Nat) : Int)).toNat : Int) = ((octet (q ++ [b]) (q.length / 8)).toNat : Int) := by
  rw [or_u8 (UInt8.toNat_lt _) sh_lt, room_get, part_now, octet_nat]
theorem part_shift (q : List Bool) (i m : Nat) : ∀ j, part q i (m + j) / 2 ^ j = part q i m
  | 0 => by simp
  | j + 1 => by
    have := bitn_le q (i + (m + j))
    rw [← Nat.add_assoc, part, Nat.pow_succ, Nat.mul_comm (2 ^ j), ← Nat.div_div_eq_div_mul, show (2 * part q i (m + j) + bitn q (i + (m + j))) / 2 = part q i (m + j) by omega]
    exact part_shift q i m j
theorem packed_get (q : List Bool) {i : Nat} (h : i < q.length) : ((packed q).getD (i / 8) 0).toNat = part q (8 * (i / 8)) 8 := by
  rw [packed, octets_get q (by omega), octet_nat]
theorem shr_u8 {x m : Nat} (hm : m < 8) : (x : Int).fdiv (2 ^ min (7 - (m : Int)).toNat IntKind.u8.bits) = ((x / 2 ^ (7 - m) : Nat) : Int) := by
  have e : min (7 - (m : Int)).toNat IntKind.u8.bits = 7 - m := by
    show min _ 8 = _
    omega
  rw [e, Int.fdiv_eq_ediv_of_nonneg _ (Int.le_of_lt (Int.pow_pos (by omega)))]
  rw [Int.natCast_ediv, Int.natCast_pow]; rfl
theorem shr_lt (l : List UInt8) (i j : Nat) : (l.getD i 0).toNat / 2 ^ j < 18446744073709551616 := Nat.lt_of_le_of_lt (Nat.div_le_self _ _) (Nat.lt_of_lt_of_le (UInt8.toNat_lt _) (by omega))
theorem bit_now (q : List Bool) {i : Nat} (h : i < q.length) : IntKind.u64.wrap ((BitVec.ofInt IntKind.u64.bits ((((packed q).getD (i / 8) 0).toNat / 2 ^ (7 - i % 8) : Nat) : Int) &&& BitVec.ofInt IntKind.u64.bits 1).toNat : Int) = (bitn q i : Int) := by
  have hl : ((packed q).getD (i / 8) 0).toNat / 2 ^ (7 - i % 8) < 18446744073709551616 := Nat.lt_of_le_of_lt (Nat.div_le_self _ _) (Nat.lt_of_lt_of_le (UInt8.toNat_lt _) (by omega))
  have := and_u64 (b := 1) hl (by omega)
  rw [show ((1 : Nat) : Int) = 1 from rfl] at this
  rw [this, packed_get q h, Nat.and_one_is_mod]
  have e := part_shift q (8 * (i / 8)) (i % 8 + 1) (7 - i % 8)
  rw [show i % 8 + 1 + (7 - i % 8) = 8 by omega] at e
  rw [e, part, show 8 * (i / 8) + i % 8 = i by omega]
  have := bitn_le q i
  omega
theorem dbl_u64 {x m : Nat} (hx : x < 2 ^ m) (hm : m < 64) : IntKind.u64.wrap ((x : Int) * 2 ^ min (1 : Int).toNat IntKind.u64.bits) = ((2 * x : Nat) : Int) := by
  have h : x < 2 ^ 63 := Nat.lt_of_lt_of_le hx (Nat.pow_le_pow_right (by omega) (by omega))
  have e : min (1 : Int).toNat IntKind.u64.bits = 1 := by decide
  rw [e, w_u64 (by omega) (by omega)]
  omega
theorem or_bit {x m b : Nat} (hx : x < 2 ^ m) (hm : m < 64) (hb : b ≤ 1) : IntKind.u64.wrap ((BitVec.ofInt IntKind.u64.bits ((2 * x : Nat) : Int) ||| BitVec.ofInt IntKind.u64.bits (b : Int)).toNat : Int) = ((2 * x + b : Nat) : Int) := by
  have h : x < 2 ^ 63 := Nat.lt_of_lt_of_le hx (Nat.pow_le_pow_right (by omega) (by omega))
  rw [or_u64 (by omega) (by omega)]
  have := Nat.two_pow_add_eq_or_of_lt (i := 1) (b := b) (by omega) x
  rw [Nat.pow_one] at this
  rw [← this]
/-- the first m of the n bits of v -/
def hi (v n m : Nat) : List Bool := (List.range m).map fun j => v.testBit (n - 1 - j)
theorem hi_length (v n m : Nat) : (hi v n m).length = m := by simp [hi]
theorem hi_succ (v n m : Nat) : hi v n (m + 1) = hi v n m ++ [v.testBit (n - 1 - m)] := by simp [hi, List.range_succ]
theorem hi_zero (v n : Nat) : hi v n 0 = [] := rfl
theorem bit_of (v i : Nat) : v / 2 ^ i % 2 = (v.testBit i).toNat := by rw [Nat.toNat_testBit]
theorem shr_and (v i : Nat) (hv : v < 18446744073709551616) : IntKind.u64.wrap ((BitVec.ofInt IntKind.u64.bits ((v / 2 ^ i : Nat) : Int) &&& BitVec.ofInt IntKind.u64.bits 1).toNat : Int) = ((v.testBit i).toNat : Int) := by
  have hl : v / 2 ^ i < 18446744073709551616 := Nat.lt_of_le_of_lt (Nat.div_le_self _ _) hv
  have := and_u64 (b := 1) hl (by omega)
  rw [show ((1 : Nat) : Int) = 1 from rfl] at this
  rw [this, Nat.and_one_is_mod, bit_of]
theorem shr_at (v : Nat) {x : Int} {e : Nat} (hx : x = e) (he : e ≤ 64) : (v : Int).fdiv (2 ^ min x.toNat IntKind.u64.bits) = ((v / 2 ^ e : Nat) : Int) := by
  subst hx
  have e : min (e : Int).toNat IntKind.u64.bits = e := by
    show min _ 64 = _
    omega
  rw [e, Int.fdiv_eq_ediv_of_nonneg _ (Int.le_of_lt (Int.pow_pos (by omega)))]
  rw [Int.natCast_ediv, Int.natCast_pow]; rfl
/-- may v be put as_ n bits -/
def Puts (v : Nat) (n : Int) : Prop := 0 ≤ n ∧ n ≤ 64 ∧ v < 2 ^ n.toNat
instance (v : Nat) (n : Int) : Decidable (Puts v n) := inferInstanceAs (Decidable (_ ∧ _))
theorem puts_shr {v n : Nat} (h : ¬ ((v / 2 ^ n : Nat) : Int) = 0) : ¬ v < 2 ^ n := fun hv => h (by rw [Nat.div_eq_of_lt hv]; rfl)
def ref (q : List Bool) : List UInt8 := q.map fun b => if b then 1 else 0
def un (n : Nat) : List Bool := List.replicate n false ++ [true]
theorem un_length (n : Nat) : (un n).length = n + 1 := by simp [un]
theorem rep_snoc (n : Nat) : List.replicate (n + 1) false = List.replicate n false ++ [false] := List.replicate_succ' ..
/-- the low m bits of v, the lowest first -/
def lo (v m : Nat) : List Bool := (List.range m).map v.testBit
end Go.Proofs.YtpamjobiohbibaaGreat
namespace Go.Proofs.YtpamjobiohbibaaGreat
open Go.RowKit
set_option linter.unusedVariables false
set_option maxRecDepth 20000
variable {B : Nat} {w0 : World} {F : List Ch} {A : Option Addr} {n c g : Nat} {bt : TypeId} {f : Ch → List Ch}
theorem bv_set (l : List UInt8) (k : Nat) (u : UInt8) : (bv l).set k (.int .u8 u.toNat) = bv (l.set k u) := by simp [bv, List.map_set]
theorem bv_len (l : List UInt8) : (bv l).length = l.length := by simp [bv]
theorem add_d (q : List Bool) (b : Bool) (hq : q.length ≤ 8000000) :
    Does Tryz.prog B w0 59 [.pointer (some ⟨g, 0, none⟩), .int .u64 b.toNat] (.blk g bt [.slice A (packed q).length c, .int .i64 q.length] :: .own 5 1 A (packed q).length c (bv (packed q)) :: F)
      (fun r L => r = .tuple #[] ∧ ∃ A' c', L = .blk g bt [.slice A' (packed (q ++ [b])).length c', .int .i64 (q ++ [b]).length] :: .own 5 1 A' (packed (q ++ [b])).length c' (bv (packed (q ++ [b]))) :: F) := by
  have hpl := packed_length q
  have hrl := room_length q
  have hb2 := Bool.toNat_le b
  refine fn_walk Tryz.func59 48 rfl rfl rfl [(0, .pointer (some ⟨g, 0, none⟩)), (1, .int .u64 b.toNat)] ⟨⟨rfl, rfl⟩, ⟨rfl, rfl⟩, trivial⟩ ?_
  refine vc_seqJ (fun zf zL => ∃ (A' : Option Addr) (c' : Nat), Sub zf [(0, .pointer (some ⟨g, 0, none⟩)), (1, .int .u64 b.toNat)] ∧ Wk zL (.blk g bt [.slice A' (room q).length c', .int .i64 q.length] :: .own 5 1 A' (room q).length c' (bv (room q)) :: F)) ?_ ?_
  · skip
    refine vc_seq ?_
    refine vc_region ?_
    refine vl_det (det_move rfl) rfl ?_
    refine vl_det (det_nilCheck rfl) rfl ?_
    refine vl_det (det_fieldAddr_ Tryz.underlying76 rfl (by kernel_rfl) rfl rfl) rfl ?_
    refine vl_det (det_load_blk (by kernel_rfl) rfl (by repeat (first | exact .hd | apply Sel.tl)) rfl) rfl ?_
    refine vl_det (det_rem rfl rfl (by omega) (tmod8 _)) rfl ?_
    refine vl_det (det_eql rfl rfl) rfl ?_
    refine vl_end [(0, _), (1, _), (9, _)] ⟨rfl, rfl, rfl, trivial⟩ ?_
    refine then_next ?_
    refine vc_decideU rfl (fun h9 => ?_) (fun h9 => ?_)
    · skip
      refine vc_region ?_
      refine vl_det (det_move rfl) rfl ?_
      refine vl_det (det_move rfl) rfl ?_
      refine vl_det (det_nilCheck rfl) rfl ?_
      refine vl_det (det_fieldAddr_ Tryz.underlying76 rfl (by kernel_rfl) rfl rfl) rfl ?_
      refine vl_det (det_load_blk (by kernel_rfl) rfl (by repeat (first | exact .hd | apply Sel.tl)) rfl) rfl ?_
      refine vl_push slT26 rfl rfl rfl rfl rfl (fun _ => rfl) (by repeat (first | exact .hd | apply Sel.tl)) (by omega) (by omega) ?_
      intro _ A16 c16
      refine vl_det (det_nilCheck rfl) rfl ?_
      refine vl_det (det_fieldAddr_ Tryz.underlying76 rfl (by kernel_rfl) rfl rfl) rfl ?_
      refine vl_eff0 (eff_store (by kernel_rfl) rfl rfl rfl (by repeat (first | exact .hd | apply Sel.tl)) (by simp)) ?_
      rintro _ _ rfl
      refine vl_end [(0, _), (1, _)] ⟨rfl, rfl, trivial⟩ ?_
      exact in_join ⟨A16, c16, ⟨(by first | rfl | exact int_to (by omega) | exact sl_to (by omega)), (by first | rfl | exact int_to (by omega) | exact sl_to (by omega)), trivial⟩, wk_blk (by rw [show (packed q).length + 1 = (room q).length by omega]; rfl) (wk_own (by omega) (by rw [← room_new (by omega)]; simp [bv]) (.refl _))⟩
    · skip
      refine vc_skip ?_
      exact in_join ⟨A, c, ⟨(by first | rfl | exact int_to (by omega) | exact sl_to (by omega)), (by first | rfl | exact int_to (by omega) | exact sl_to (by omega)), trivial⟩, wk_blk (by rw [room_old (by omega)]) (wk_own (by rw [room_old (by omega)]) (by rw [room_old (by omega)]) (.refl _))⟩
  · rintro _ _ ⟨A', c', hs, hp⟩
    refine vc_weaken _ hs (vc_wk hp ?_)
    clear hs hp
    refine vc_seq ?_
    refine vc_own_some (A := A') (n := (room q).length) (xs := bv (room q)) (.tail _ (.head _)) (by omega) ?_
    intro ad hA
    subst hA
    refine vh_region (S := .blk g bt [.slice (some ad) (room q).length c', .int .i64 q.length] :: F) (by kernel_rfl) (by repeat (first | exact List.Sublist.refl _ | exact List.nil_sublist _ | exact List.sublist_append_right _ _ | apply List.Sublist.cons_cons | apply List.Sublist.cons)) ?_
    refine vh_take 0 rfl (by kernel_rfl) (by kernel_rfl) (by kernel_rfl) (det_move rfl) rfl ?_
    refine vh_take 1 rfl (by kernel_rfl) (by kernel_rfl) (by kernel_rfl) (det_nilCheck rfl) rfl ?_
    refine vh_take 2 rfl (by kernel_rfl) (by kernel_rfl) (by kernel_rfl) (det_fieldAddr_ Tryz.underlying76 rfl (by kernel_rfl) rfl rfl) rfl ?_
    refine vh_take 3 rfl (by kernel_rfl) (by kernel_rfl) (by kernel_rfl) (det_load_blk (by kernel_rfl) rfl (by repeat (first | exact .hd | apply Sel.tl)) rfl) rfl ?_
    refine vh_take 4 rfl (by kernel_rfl) (by kernel_rfl) (by kernel_rfl) (det_move rfl) rfl ?_
    refine vh_take 5 rfl (by kernel_rfl) (by kernel_rfl) (by kernel_rfl) (det_nilCheck rfl) rfl ?_
    refine vh_take 6 rfl (by kernel_rfl) (by kernel_rfl) (by kernel_rfl) (det_fieldAddr_ Tryz.underlying76 rfl (by kernel_rfl) rfl rfl) rfl ?_
    refine vh_take 7 rfl (by kernel_rfl) (by kernel_rfl) (by kernel_rfl) (det_load_blk (by kernel_rfl) rfl (by repeat (first | exact .hd | apply Sel.tl)) rfl) rfl ?_
    refine vh_take 8 rfl (by kernel_rfl) (by kernel_rfl) (by kernel_rfl) (det_quo rfl rfl (by omega) (quo8 (by omega))) rfl ?_
    refine vh_take 9 rfl (by kernel_rfl) (by kernel_rfl) (by kernel_rfl) (det_indexAddr_some (size := 1) (i := q.length / 8) Tryz.underlying26 (by kernel_rfl) rfl rfl rfl (by omega)) rfl ?_
    refine vh_take 11 rfl (by kernel_rfl) (by kernel_rfl) (by kernel_rfl) (det_move rfl) rfl ?_
    refine vh_take 12 rfl (by kernel_rfl) (by kernel_rfl) (by kernel_rfl) (det_conv Tryz.underlying39 Tryz.underlying5 rfl (w_u8 (by omega) (by omega))) rfl ?_
    refine vh_take 13 rfl (by kernel_rfl) (by kernel_rfl) (by kernel_rfl) (det_move rfl) rfl ?_
    refine vh_take 14 rfl (by kernel_rfl) (by kernel_rfl) (by kernel_rfl) (det_nilCheck rfl) rfl ?_
    refine vh_take 15 rfl (by kernel_rfl) (by kernel_rfl) (by kernel_rfl) (det_fieldAddr_ Tryz.underlying76 rfl (by kernel_rfl) rfl rfl) rfl ?_
    refine vh_take 16 rfl (by kernel_rfl) (by kernel_rfl) (by kernel_rfl) (det_load_blk (by kernel_rfl) rfl (by repeat (first | exact .hd | apply Sel.tl)) rfl) rfl ?_
    refine vh_take 17 rfl (by kernel_rfl) (by kernel_rfl) (by kernel_rfl) (det_rem rfl rfl (by omega) (tmod8 _)) rfl ?_
    refine vh_take 18 rfl (by kernel_rfl) (by kernel_rfl) (by kernel_rfl) (det_sub rfl rfl (w_i64 (by omega) (by omega))) rfl ?_
    refine vh_take 19 rfl (by kernel_rfl) (by kernel_rfl) (by kernel_rfl) (det_shl rfl rfl (by omega) (sh_u8 (by omega))) rfl ?_
    refine vh_one 10 (by kernel_rfl) ?_
    refine st_det rfl .no (det_load_u8 (by kernel_rfl) rfl (by first | (exact Bor.own (by repeat (first | exact List.Mem.head _ | apply List.Mem.tail))) | (repeat (first | assumption | apply Bor.cons))) (by omega)) rfl (by repeat (first | exact List.Sublist.refl _ | exact List.nil_sublist _ | exact List.sublist_append_right _ _ | apply List.Sublist.cons_cons | apply List.Sublist.cons)) ?_
    refine vh_take 20 rfl (by kernel_rfl) (by kernel_rfl) (by kernel_rfl) (det_or rfl rfl (or_now q b)) rfl ?_
    refine vh_take 21 rfl (by kernel_rfl) (by kernel_rfl) (by kernel_rfl) (det_indexAddr_some (size := 1) (i := q.length / 8) Tryz.underlying26 (by kernel_rfl) rfl rfl rfl (by omega)) rfl ?_
    refine vh_one 22 (by kernel_rfl) ?_
    refine st_eff0 rfl .no (eff_store_row (by kernel_rfl) rfl rfl rfl (by repeat (first | exact .hd | apply Sel.tl)) (by rw [bv_len]; omega)) (by rintro _ _ rfl; exact (by repeat (first | exact List.Sublist.refl _ | exact List.nil_sublist _ | exact List.sublist_append_right _ _ | apply List.Sublist.cons_cons | apply List.Sublist.cons))) ?_
    rintro _ _ rfl
    refine vh_done [(0, _)] ⟨rfl, trivial⟩ (by kernel_rfl) ?_
    refine then_next ?_
    refine vc_region ?_
    refine vl_det (det_move rfl) rfl ?_
    refine vl_det (det_nilCheck rfl) rfl ?_
    refine vl_det (det_fieldAddr_ Tryz.underlying76 rfl (by kernel_rfl) rfl rfl) rfl ?_
    refine vl_det (det_load_blk (by kernel_rfl) rfl (by repeat (first | exact .hd | apply Sel.tl)) rfl) rfl ?_
    refine vl_det (det_add rfl rfl (w_i64 (by omega) (by omega))) rfl ?_
    refine vl_det (det_nilCheck rfl) rfl ?_
    refine vl_det (det_fieldAddr_ Tryz.underlying76 rfl (by kernel_rfl) rfl rfl) rfl ?_
    refine vl_eff0 (eff_store (by kernel_rfl) rfl rfl rfl (by repeat (first | exact .hd | apply Sel.tl)) (by simp)) ?_
    rintro _ _ rfl
    refine vl_end [] trivial ?_
    refine ret_n ?_
    refine ret_wk (L' := .blk g bt [.slice (some ad) (packed (q ++ [b])).length c', .int .i64 (q ++ [b]).length] :: .own 5 1 (some ad) (packed (q ++ [b])).length c' (bv (packed (q ++ [b]))) :: F) (wk_blk (by rw [← room_set q b]; simp) (wk_own (by rw [← room_set q b]; simp) (by rw [Nat.mul_one, bv_set, room_set]) (.refl _))) ?_
    refine ret0 rfl ?_
    exact ⟨rfl, _, c', rfl⟩
theorem bit_d (q : List Bool) (i : Nat) (hi : i < q.length) (hq : q.length ≤ 8000000000) (rest : List Value) (l : List UInt8) (hl : packed q = l) (hn : n = l.length) (hs : Sel (.blk g bt (.slice A n c :: rest)) F f) (hb : Bor B w0 F 1 (.slice A n c) n (bv l)) :
    Does Tryz.prog B w0 96 [.pointer (some ⟨g, 0, none⟩), .int .i64 i] F
      (fun r L => r = .int .u64 (bitn q i) ∧ L = F) := by
  subst hn
  subst hl
  have hpl := packed_length q
  refine fn_walk Tryz.func96 19 rfl rfl rfl [(0, .pointer (some ⟨g, 0, none⟩)), (1, .int .i64 i)] ⟨⟨rfl, rfl⟩, ⟨rfl, rfl⟩, trivial⟩ ?_
  refine vc_seq ?_
  refine vc_region ?_
  refine vl_det (det_assign rfl) rfl ?_
  refine vl_end [(0, _), (1, _)] ⟨rfl, rfl, trivial⟩ ?_
  refine then_next ?_
  refine vc_seq ?_
  refine vc_region ?_
  refine vl_det (det_move rfl) rfl ?_
  refine vl_det (det_nilCheck rfl) rfl ?_
  refine vl_det (det_fieldAddr_ Tryz.underlying76 rfl (by kernel_rfl) rfl rfl) rfl ?_
  refine vl_det (det_load_blk (by kernel_rfl) rfl hs rfl) rfl ?_
  refine vl_det (det_move rfl) rfl ?_
  refine vl_det (det_quo rfl rfl (by omega) (quo8 (by omega))) rfl ?_
  refine vl_det (det_indexAddr (i := i / 8) Tryz.underlying26 (by kernel_rfl) rfl rfl rfl (by omega) (by first | (exact Bor.own (by repeat (first | exact List.Mem.head _ | apply List.Mem.tail))) | (repeat (first | assumption | apply Bor.cons)))) rfl ?_
  refine vl_det (det_load_u8 (by kernel_rfl) rfl (by first | (exact Bor.own (by repeat (first | exact List.Mem.head _ | apply List.Mem.tail))) | (repeat (first | assumption | apply Bor.cons))) (by omega)) rfl ?_
  refine vl_det (det_move rfl) rfl ?_
  refine vl_det (det_rem rfl rfl (by omega) (tmod8 _)) rfl ?_
  refine vl_det (det_sub rfl rfl (w_i64 (by omega) (by omega))) rfl ?_
  refine vl_det (det_shr rfl rfl (by omega) (shr_u8 (by omega))) rfl ?_
  refine vl_det (det_conv Tryz.underlying5 Tryz.underlying39 rfl (wrap_u64 _ (shr_lt _ _ _))) rfl ?_
  refine vl_det (det_and rfl rfl (bit_now q hi)) rfl ?_
  refine vl_det (det_assign rfl) rfl ?_
  refine vl_end [(4, _)] ⟨rfl, trivial⟩ ?_
  refine then_next ?_
  refine vc_ret ?_
  refine ret1 rfl rfl ?_
  exact ⟨rfl, rfl⟩
theorem number_d (q : List Bool) (p m : Nat) (hp : p ≤ q.length) (hm : m ≤ 64) (hq : q.length ≤ 8000000000) (rest : List Value) (l : List UInt8) (hl : packed q = l) (hn : n = l.length) (hs : Sel (.blk g bt (.slice A n c :: .int .i64 q.length :: rest)) F f) (hb : Bor B w0 F 1 (.slice A n c) n (bv l)) :
    Does Tryz.prog B w0 97 [.pointer (some ⟨g, 0, none⟩), .int .i64 p, .int .i64 m] F
      (fun r L => r = .int .u64 (part q p m) ∧ L = F) := by
  refine fn_walk Tryz.func97 31 rfl rfl rfl [(0, .pointer (some ⟨g, 0, none⟩)), (1, .int .i64 p), (2, .int .i64 m)] ⟨⟨rfl, rfl⟩, ⟨rfl, rfl⟩, ⟨rfl, rfl⟩, trivial⟩ ?_
  refine vc_seq ?_
  refine vc_region ?_
  refine vl_det (det_assign rfl) rfl ?_
  refine vl_end [(0, _), (1, _), (2, _)] ⟨rfl, rfl, rfl, trivial⟩ ?_
  refine then_next ?_
  refine vc_seq ?_
  refine vc_region ?_
  refine vl_det (det_assign rfl) rfl ?_
  refine vl_end [(0, _), (1, _), (2, _), (7, _)] ⟨rfl, rfl, rfl, rfl, trivial⟩ ?_
  refine then_next ?_
  refine vc_seq ?_
  refine vc_seq ?_
  refine vc_region ?_
  refine vl_det (det_move rfl) rfl ?_
  refine vl_det (det_assign rfl) rfl ?_
  refine vl_end [(0, _), (1, _), (2, _), (7, _), (8, _)] ⟨rfl, rfl, rfl, rfl, rfl, trivial⟩ ?_
  refine then_next ?_
  refine vc_block ?_
  refine vc_loopJ (fun zf zL zm => ∃ (k : Nat), (k ≤ m) ∧ m - k = zm ∧ Sub zf [(0, .pointer (some ⟨g, 0, none⟩)), (1, .int .i64 p), (2, .int .i64 m), (7, .int .u64 (part q p k)), (8, .int .i64 (p + k : Nat))] ∧ Wk zL (F)) _ ⟨0, Nat.zero_le _, rfl, ⟨(by first | rfl | exact int_to (by omega) | exact sl_to (by omega)), (by first | rfl | exact int_to (by omega) | exact sl_to (by omega)), (by first | rfl | exact int_to (by omega) | exact sl_to (by omega)), (by first | rfl | exact int_to (by omega) | exact sl_to (by omega)), (by first | rfl | exact int_to (by omega) | exact sl_to (by omega)), trivial⟩, .refl _⟩ ?_
  rintro _ _ _ ⟨k, hk, rfl, hs, hp⟩
  refine vc_weaken _ hs (vc_wk hp ?_)
  clear hs hp
  have hlt := part_lt q p k
  have hble := bitn_le q (p + k)
  have hps : part q p (k + 1) = 2 * part q p k + bitn q (p + k) := rfl
  refine vc_seq ?_
  refine vc_seq ?_
  refine vc_region ?_
  refine vl_det (det_move rfl) rfl ?_
  refine vl_det (det_move rfl) rfl ?_
  refine vl_det (det_move rfl) rfl ?_
  refine vl_det (det_add rfl rfl (w_i64 (by omega) (by omega))) rfl ?_
  refine vl_det (det_lss rfl rfl) rfl ?_
  refine vl_end [(0, _), (1, _), (2, _), (7, _), (8, _), (14, _)] ⟨rfl, rfl, rfl, rfl, rfl, rfl, trivial⟩ ?_
  refine then_next ?_
  refine vc_decideU rfl (fun h14 => ?_) (fun h14 => ?_)
  · skip
    refine vc_skip ?_
    refine then_next ?_
    refine vc_seq ?_
    refine vc_block ?_
    refine vc_seq ?_
    refine vc_region ?_
    refine vl_det (det_move rfl) rfl ?_
    refine vl_det (det_shl rfl rfl (by omega) (dbl_u64 hlt (by omega))) rfl ?_
    refine vl_det (det_assign rfl) rfl ?_
    refine vl_end [(0, _), (1, _), (2, _), (7, _), (8, _)] ⟨rfl, rfl, rfl, rfl, rfl, trivial⟩ ?_
    refine then_next ?_
    refine vc_seq ?_
    refine vc_region ?_
    refine vl_det (det_move rfl) rfl ?_
    refine vl_det (det_move rfl) rfl ?_
    refine vl_det (det_nilCheck rfl) rfl ?_
    refine vl_det (det_fieldAddr_ Tryz.underlying76 rfl (by kernel_rfl) rfl rfl) rfl ?_
    refine vl_det (det_load_blk (by kernel_rfl) rfl hs rfl) rfl ?_
    refine vl_det (det_lss (m := (p + k : Nat)) rfl rfl) rfl ?_
    refine vl_end [(0, _), (1, _), (2, _), (7, _), (8, _), (24, _)] ⟨rfl, rfl, rfl, rfl, rfl, rfl, trivial⟩ ?_
    refine then_next ?_
    refine vc_decideU rfl (fun h24 => ?_) (fun h24 => ?_)
    · skip
      refine vc_region ?_
      refine vl_det (det_move rfl) rfl ?_
      refine vl_det (det_move rfl) rfl ?_
      refine vl_det (det_move rfl) rfl ?_
      refine vl_call co96 rfl (bit_d q (p + k) (by omega) hq _ l hl hn hs hb) rfl ?_
      rintro _ _ ⟨rfl, hLL⟩
      obtain rfl := hLL.symm
      refine vl_det (det_or rfl rfl (or_bit hlt (by omega) hble)) rfl ?_
      refine vl_det (det_assign rfl) rfl ?_
      refine vl_end [(0, _), (1, _), (2, _), (7, _), (8, _)] ⟨rfl, rfl, rfl, rfl, rfl, trivial⟩ ?_
      refine in_normal ?_
      refine then_next ?_
      refine vc_region ?_
      refine vl_det (det_move rfl) rfl ?_
      refine vl_det (det_add rfl rfl (w_i64 (by omega) (by omega))) rfl ?_
      refine vl_det (det_assign rfl) rfl ?_
      refine vl_end [(0, _), (1, _), (2, _), (7, _), (8, _)] ⟨rfl, rfl, rfl, rfl, rfl, trivial⟩ ?_
      refine in_loop_ ⟨_, by omega, k + 1, by omega, rfl, ⟨(by first | rfl | exact int_to (by omega) | exact sl_to (by omega)), (by first | rfl | exact int_to (by omega) | exact sl_to (by omega)), (by first | rfl | exact int_to (by omega) | exact sl_to (by omega)), (by first | rfl | exact int_to (by omega) | exact sl_to (by omega)), (by first | rfl | exact int_to (by omega) | exact sl_to (by omega)), trivial⟩, .refl _⟩
    · skip
      have h0 := bitn_out q (i := p + k) (by omega)
      refine vc_skip ?_
      refine in_normal ?_
      refine then_next ?_
      refine vc_region ?_
      refine vl_det (det_move rfl) rfl ?_
      refine vl_det (det_add rfl rfl (w_i64 (by omega) (by omega))) rfl ?_
      refine vl_det (det_assign rfl) rfl ?_
      refine vl_end [(0, _), (1, _), (2, _), (7, _), (8, _)] ⟨rfl, rfl, rfl, rfl, rfl, trivial⟩ ?_
      refine in_loop_ ⟨_, by omega, k + 1, by omega, rfl, ⟨(by first | rfl | exact int_to (by omega) | exact sl_to (by omega)), (by first | rfl | exact int_to (by omega) | exact sl_to (by omega)), (by first | rfl | exact int_to (by omega) | exact sl_to (by omega)), (by first | rfl | exact int_to (by omega) | exact sl_to (by omega)), (by first | rfl | exact int_to (by omega) | exact sl_to (by omega)), trivial⟩, .refl _⟩
  · skip
    refine vc_exit ?_
    refine then_exit ?_
    refine loop_exit ?_
    refine in_eq ?_
    refine then_next ?_
    refine vc_seq ?_
    refine vc_region ?_
    refine vl_det (det_move rfl) rfl ?_
    refine vl_det (det_assign rfl) rfl ?_
    refine vl_end [(6, _)] ⟨rfl, trivial⟩ ?_
    refine then_next ?_
    refine vc_ret ?_
    refine ret1 rfl rfl ?_
    have hk' : k = m := by omega
    subst hk'
    exact ⟨rfl, rfl⟩
end Go.Proofs.YtpamjobiohbibaaGreat
namespace Go.Proofs.YtpamjobiohbibaaGreat
open Go.RowKit
set_option linter.unusedVariables false
set_option maxRecDepth 20000
set_option maxHeartbeats 1000000 in
/-- slices.Clone of bytes -/
theorem clone_c {B : Nat} {v : Value} {n : Nat} {l : List UInt8} (w : World) (h : Rd w B 1 v n (bv l)) (hn : n ≤ 1099511627776) :
    Calls Tryz.prog 60 #[v] w fun e w' => ∃ v', e = .returned v' ∧ w'.ownsRow w.heap.size 5 1 v' n (bv l) ∧ Below w.heap.size w w' := by
  have h' := h
  obtain ⟨A, c, rfl, hc, hl, hr⟩ := h
  have hnil := fun w => Lib.run_eql_slice_nil (P := Tryz.prog) w 26 5 A n c 0 0 Tryz.underlying26
  rcases A with _ | ad
  · have h0 : n = 0 := by
      rcases Nat.eq_zero_or_pos n with h0 | h0
      · exact h0
      · obtain ⟨ad, h, _⟩ := hr h0; cases h
    subst h0
    have hl0 : l = [] := List.eq_nil_of_length_eq_zero (by simpa using hl)
    subst hl0
    clear hr hl h'
    go_enter Tryz.func60, Tryz.ntmps60
    go_wp2
    go_ret
    exact ⟨_, rfl, World.ownsRow_nil _ _ _ _, Below.refl _ _⟩
  · have hcap : n ≤ c := hc
    have hown : (w.alloc (.cells #[] 5)).ownsRow w.heap.size 5 1 (.slice (some ⟨w.heap.size, 0, none⟩) 0 0) 0 [] := ⟨rfl, .inr ⟨_, 0, #[], rfl, Nat.le_refl _, heap_alloc_new w _, Nat.le_refl _, by unfold maxLen; omega, rfl, rfl⟩⟩
    have hr' : Rd (w.alloc (.cells #[] 5)) B 1 (.slice (some ad) n c) n (bv l) := by
      obtain ⟨A, c', hv, h2, h3, h4⟩ := h'
      refine ⟨A, c', hv, h2, h3, fun hn => ?_⟩
      obtain ⟨ad', e, hb, hcell⟩ := h4 hn
      refine ⟨ad', e, hb, fun j u hu => ?_⟩
      have := hcell j u hu
      rw [World.cell?_alloc_lt w _ _ (World.block_lt_of_cell? w _ this)]
      exact this
    have H1 := Lib.hid hown; have H2 := Lib.hid hr'
    clear hr hl h' hown hr'
    go_enter Tryz.func60, Tryz.ntmps60
    have hb0 : Below w.heap.size w (w.alloc (.cells #[] 5)) := (Below.refl _ _).alloc (Nat.le_refl _) _
    have hs0 : w.heap.size ≤ (w.alloc (.cells #[] 5)).heap.size := hb0.size
    have H3 := Lib.hid hb0; have H4 := Lib.hid hs0
    clear hb0 hs0
    go_wp2_with (at_builtin; refine wp_app slT26 rfl (.tmp 5) (.tmp 6) rfl rfl H1.out rfl H2.out (bv_one _) H3.out (Nat.le_refl _) H4.out (by omega) (by omega) ?_; intro v2 w2 hown2 hb2 hg2)
    go_ret
    have e0 : 0 + n = n := by omega
    rw [e0, List.nil_append] at hown2
    exact ⟨v2, rfl, hown2, hb2⟩
theorem clone_d {B : Nat} {w0 : World} {F : List Ch} {A : Option Addr} {n c : Nat} (l : List UInt8) (hb : Bor B w0 F 1 (.slice A n c) n (bv l)) (hn : n ≤ 1099511627776) :
    Does Tryz.prog B w0 60 [.slice A n c] F (fun r L => ∃ A' c', r = .slice A' n c' ∧ L = .own 5 1 A' n c' (bv l) :: F) :=
  Does.of_own fun w hw => clone_c w (hb w hw) hn
end Go.Proofs.YtpamjobiohbibaaGreat
