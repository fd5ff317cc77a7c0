/-
  Dictionaries of texts: rises, the bytes of a bucket. Condition: texts to 2^40 bytes.
-/
import Derived.Test.YtbkaoncopohdbaaDictA
import Derived.Test.YtbkaoncopohdbaaTextD
import Derived.Test.YtbkaoncopohdbaaNumD
import Derived.Test.YtbkaoncopohdbaaAllD
namespace Go.Proofs.Ytbkaoncopohdbaa
open Go.RowKit
set_option linter.unusedVariables false
set_option maxRecDepth 20000
variable {B : Nat} {w0 : World} {F : List Ch} {A A1 A2 : Option Addr} {n c c1 c2 g : Nat}
theorem drises_d {l : List Txt} (hb : Bor B w0 F 1 (.slice A l.length c) l.length (strs l)) (hl : l.length ≤ 1000000000000000) :
    Does Try.prog B w0 25 [.slice A l.length c] F (fun r L => r = .bool (decide (RisT l)) ∧ L = F) := by
  refine fn_walk Try.func25 21 rfl rfl rfl [(0, .slice A l.length c)] ⟨⟨rfl, rfl⟩, trivial⟩ ?_
  refine vc_seq ?_
  refine vc_region ?_
  refine vl_det (det_assign rfl) rfl ?_
  refine vl_end [(0, _)] ⟨rfl, trivial⟩ ?_
  refine then_next ?_
  refine vc_seq ?_
  refine vc_region ?_
  refine vl_det (det_assign rfl) rfl ?_
  refine vl_end [(0, _), (3, _)] ⟨rfl, rfl, trivial⟩ ?_
  refine then_next ?_
  refine vc_seq ?_
  refine vc_seq ?_
  refine vc_region ?_
  refine vl_det (det_move rfl) rfl ?_
  refine vl_det (det_len_sl Try.underlying22 rfl) rfl ?_
  refine vl_det (det_move rfl) rfl ?_
  refine vl_end [(0, _), (3, _), (6, _), (7, _), (8, _)] ⟨rfl, rfl, rfl, rfl, rfl, trivial⟩ ?_
  refine then_next ?_
  refine vc_block ?_
  refine vc_loopJ (fun zf zL zm => ∃ (k : Nat), (k ≤ l.length ∧ ∀ i, i < k → mayT (prvT l i) (l.getD i [])) ∧ l.length - k = zm ∧ Sub zf [(0, .slice A l.length c), (3, .string ⟨(prvT l k).toArray⟩), (6, .slice A l.length c), (7, .int .i64 l.length), (8, .int .i64 k)] ∧ Wk zL (F)) _ ⟨0, ⟨Nat.zero_le _, fun i h => absurd h (by omega)⟩, rfl, ⟨(by first | rfl | exact int_to (by omega) | exact sl_to (by omega)), (by first | rfl | exact int_to (by omega) | exact sl_to (by omega)), (by first | rfl | exact int_to (by omega) | exact sl_to (by omega)), (by first | rfl | exact int_to (by omega) | exact sl_to (by omega)), (by first | rfl | exact int_to (by omega) | exact sl_to (by omega)), trivial⟩, .refl _⟩ ?_
  rintro _ _ _ ⟨k, ⟨hk, hm⟩, rfl, hs, hp⟩
  refine vc_weaken _ hs (vc_wk hp ?_)
  clear hs hp
  refine vc_seq ?_
  refine vc_region ?_
  refine vl_det (det_lss rfl rfl) rfl ?_
  refine vl_end [(0, _), (3, _), (6, _), (7, _), (8, _), (9, _)] ⟨rfl, rfl, rfl, rfl, rfl, rfl, trivial⟩ ?_
  refine then_next ?_
  refine vc_seq ?_
  refine vc_decideU rfl (fun h9 => ?_) (fun h9 => ?_)
  · skip
    refine vc_skip ?_
    refine then_next ?_
    refine vc_seq ?_
    refine vc_block ?_
    refine vc_seq ?_
    refine vc_region ?_
    refine vl_det (det_indexAddr (size := 1) Try.underlying22 (by kernel_rfl) rfl rfl rfl (by omega) (by first | (exact Bor.own (by repeat (first | exact List.Mem.head _ | apply List.Mem.tail))) | (repeat (first | assumption | apply Bor.cons)))) rfl ?_
    refine vl_det (det_load_str (by kernel_rfl) rfl (by first | (exact Bor.own (by repeat (first | exact List.Mem.head _ | apply List.Mem.tail))) | (repeat (first | assumption | apply Bor.cons))) (by omega)) rfl ?_
    refine vl_det (det_assign rfl) rfl ?_
    refine vl_end [(0, _), (3, _), (5, _), (6, _), (7, _), (8, _)] ⟨rfl, rfl, rfl, rfl, rfl, rfl, trivial⟩ ?_
    refine then_next ?_
    refine vc_seq ?_
    refine vc_seq ?_
    refine vc_region ?_
    refine vl_det (det_move rfl) rfl ?_
    refine vl_det (det_move rfl) rfl ?_
    refine vl_call co42 rfl (dmay_d (prvT l k) (l.getD k [])) rfl ?_
    rintro _ _ ⟨rfl, hLL⟩
    obtain rfl := hLL.symm
    refine vl_det (det_notd rfl) rfl ?_
    refine vl_end [(0, _), (5, _), (6, _), (7, _), (8, _), (15, _)] ⟨rfl, rfl, rfl, rfl, rfl, rfl, trivial⟩ ?_
    refine then_next ?_
    refine vc_decideU rfl (fun h15 => ?_) (fun h15 => ?_)
    · skip
      refine vc_seq ?_
      refine vc_region ?_
      refine vl_det (det_assign rfl) rfl ?_
      refine vl_end [(2, _)] ⟨rfl, trivial⟩ ?_
      refine then_next ?_
      refine vc_ret ?_
      refine then_ret ?_
      refine in_ret ?_
      refine then_ret ?_
      refine loop_ret ?_
      refine in_ret ?_
      refine then_ret ?_
      refine ret1 rfl rfl ?_
      exact ⟨by rw [decide_eq_false (fun h => h15 (h.1 k (by omega)))], rfl⟩
    · skip
      have hmk : mayT (prvT l k) (l.getD k []) := Classical.not_not.1 h15
      refine vc_skip ?_
      refine then_next ?_
      refine vc_region ?_
      refine vl_det (det_move rfl) rfl ?_
      refine vl_det (det_assign rfl) rfl ?_
      refine vl_end [(0, _), (3, _), (6, _), (7, _), (8, _)] ⟨rfl, rfl, rfl, rfl, rfl, trivial⟩ ?_
      refine in_normal ?_
      refine then_next ?_
      refine vc_region ?_
      refine vl_det (det_add rfl rfl (w_i64 (by omega) (by omega))) rfl ?_
      refine vl_det (det_move rfl) rfl ?_
      refine vl_end [(0, _), (3, _), (6, _), (7, _), (8, _)] ⟨rfl, rfl, rfl, rfl, rfl, trivial⟩ ?_
      rw [← prvT_succ]
      refine in_loop_ ⟨_, by omega, k + 1, ⟨by omega, fun i hi => by
        by_cases e : i = k
        · rw [e]; exact hmk
        · exact hm i (by omega)⟩, rfl, ⟨(by first | rfl | exact int_to (by omega) | exact sl_to (by omega)), (by first | rfl | exact int_to (by omega) | exact sl_to (by omega)), (by first | rfl | exact int_to (by omega) | exact sl_to (by omega)), (by first | rfl | exact int_to (by omega) | exact sl_to (by omega)), (by first | rfl | exact int_to (by omega) | exact sl_to (by omega)), trivial⟩, .refl _⟩
  · skip
    refine vc_exit ?_
    refine then_exit ?_
    refine loop_exit ?_
    refine in_eq ?_
    refine then_next ?_
    refine vc_seq ?_
    refine vc_region ?_
    refine vl_det (det_move rfl) rfl ?_
    refine vl_det (det_len_sl Try.underlying22 rfl) rfl ?_
    refine vl_det (det_leq rfl rfl) rfl ?_
    refine vl_det (det_assign rfl) rfl ?_
    refine vl_end [(2, _)] ⟨rfl, trivial⟩ ?_
    refine then_next ?_
    refine vc_ret ?_
    refine ret1 rfl rfl ?_
    have e : k = l.length := by omega
    subst e
    exact ⟨by rw [decide_eq_decide.2 (show ((l.length : Int) ≤ 1048576) ↔ RisT l from ⟨fun h => ⟨hm, by omega⟩, fun h => by have := h.2; omega⟩)], rfl⟩
theorem encT_len {s : Txt} (h : s.length ≤ 1000000) : (encT s).length ≤ s.length + 10 := by
  have := encN_len10 (x := s.length) (by omega)
  unfold encT
  rw [List.length_append]
  omega
theorem tailT_len : ∀ (was : Txt) (r : List Txt), (∀ s ∈ r, s.length ≤ 25) → (tailT was r).length ≤ r.length * 45
  | _, [], _ => by simp [tailT]
  | was, s :: r, h => by
    have h1 := tailT_len s r (fun x hx => h x (by simp [hx]))
    have h2 := h s (by simp)
    have h3 : (encT (s.drop (lcp was s))).length ≤ 35 := by
      have := encT_len (s := s.drop (lcp was s)) (by rw [List.length_drop]; omega)
      rw [List.length_drop] at this
      omega
    have h4 : (encN (lcp was s)).length ≤ 10 := encN_len10 (by have := (lcp_le was s).2; omega)
    rw [tailT, List.length_append, List.length_append, List.length_cons, Nat.succ_mul]
    omega
theorem tailT_take : ∀ (t : Txt) (r : List Txt) (k : Nat), k < r.length → tailT t (r.take (k + 1)) = tailT t (r.take k) ++ (encN (lcp ((t :: r).getD k []) (r.getD k [])) ++ encT ((r.getD k []).drop (lcp ((t :: r).getD k []) (r.getD k []))))
  | _, [], _, h => absurd h (by simp)
  | t, s :: r, 0, _ => by simp [tailT]
  | t, s :: r, k + 1, h => by
    have := tailT_take s r k (by simpa using h)
    rw [List.take_succ_cons, tailT, this, List.take_succ_cons, tailT]
    simp only [List.getD_cons_succ, List.append_assoc]
theorem bucket_d {t : Txt} {r : List Txt} (hb : Bor B w0 F 1 (.slice A (r.length + 1) c) (r.length + 1) (strs (t :: r))) (hl : r.length ≤ 1000) (h25 : ∀ s ∈ t :: r, s.length ≤ 25) :
    Does Try.prog B w0 28 [.slice A (r.length + 1) c] F (fun v L => ∃ A' c', v = .slice A' (bucketT (t :: r)).length c' ∧ L = .own 5 1 A' (bucketT (t :: r)).length c' (bv (bucketT (t :: r))) :: F) := by
  have ht := h25 t (by simp)
  have hcut := hb.cut (k := 1) (by omega)
  rw [Nat.add_sub_cancel, show (strs (t :: r)).drop (1 * 1) = strs r from rfl] at hcut
  obtain ⟨A9, hA9⟩ : ∃ A9, A9 = (if c = 1 then A else A.map (·.add (1 * 1))) := ⟨_, rfl⟩
  obtain ⟨c9, hc9⟩ : ∃ c9, c9 = c - 1 := ⟨_, rfl⟩
  rw [← hA9, ← hc9] at hcut
  have e0 : (encT t ++ tailT t (r.take 0)).length = (encT t).length := by simp [tailT]
  refine fn_walk Try.func28 37 rfl rfl rfl [(0, .slice A (r.length + 1) c)] ⟨⟨rfl, rfl⟩, trivial⟩ ?_
  refine vc_seq ?_
  refine vc_region ?_
  refine vl_det (det_assign rfl) rfl ?_
  refine vl_end [(0, _)] ⟨rfl, trivial⟩ ?_
  refine then_next ?_
  refine vc_seq ?_
  refine vc_region ?_
  refine vl_det (det_move rfl) rfl ?_
  refine vl_det (det_indexAddr (i := 0) (size := 1) Try.underlying22 (by kernel_rfl) rfl rfl rfl (by omega) (by first | (exact Bor.own (by repeat (first | exact List.Mem.head _ | apply List.Mem.tail))) | (repeat (first | assumption | apply Bor.cons)))) rfl ?_
  refine vl_det (det_load_str (b := t :: r) (by kernel_rfl) rfl (by first | (exact Bor.own (by repeat (first | exact List.Mem.head _ | apply List.Mem.tail))) | (repeat (first | assumption | apply Bor.cons))) (by omega)) rfl ?_
  refine vl_call co44 rfl (text_d t (by omega)) rfl ?_
  rintro _ _ ⟨A10, c10, rfl, hLL⟩
  obtain rfl := hLL.symm
  refine vl_det (det_assign rfl) rfl ?_
  refine vl_end [(0, _), (3, _)] ⟨rfl, rfl, trivial⟩ ?_
  refine then_next ?_
  refine vc_seq ?_
  refine vc_seq ?_
  refine vc_region ?_
  refine vl_det (det_move rfl) rfl ?_
  refine vl_det (det_slice_lo (i := 1) (size := 1) Try.underlying22 (by kernel_rfl) rfl rfl rfl (by omega)) rfl ?_
  rw [Nat.add_sub_cancel, ← hA9, ← hc9]
  refine vl_det (det_len_sl Try.underlying22 rfl) rfl ?_
  refine vl_det (det_move rfl) rfl ?_
  refine vl_end [(0, _), (3, _), (12, _), (13, _), (14, _)] ⟨rfl, rfl, rfl, rfl, rfl, trivial⟩ ?_
  refine then_next ?_
  refine vc_block ?_
  refine vc_loopJ (fun zf zL zm => ∃ (k : Nat) (A3 : Option Addr) (c3 : Nat), (k ≤ r.length) ∧ r.length - k = zm ∧ Sub zf [(0, .slice A (r.length + 1) c), (3, .slice A3 (encT t ++ tailT t (r.take k)).length c3), (12, .slice A9 r.length c9), (13, .int .i64 r.length), (14, .int .i64 k)] ∧ Wk zL (.own 5 1 A3 (encT t ++ tailT t (r.take k)).length c3 (bv (encT t ++ tailT t (r.take k))) :: F)) _ ⟨0, A10, c10, Nat.zero_le _, rfl, ⟨(by first | rfl | exact int_to (by omega) | exact sl_to (by omega)), (by first | rfl | exact int_to (by omega) | exact sl_to (by omega)), (by first | rfl | exact int_to (by omega) | exact sl_to (by omega)), (by first | rfl | exact int_to (by omega) | exact sl_to (by omega)), (by first | rfl | exact int_to (by omega) | exact sl_to (by omega)), trivial⟩, wk_own (by simp [tailT]) (by simp [tailT]) (.refl _)⟩ ?_
  rintro _ _ _ ⟨k, A3, c3, hk, rfl, hs, hp⟩
  refine vc_weaken _ hs (vc_wk hp ?_)
  clear hs hp
  refine vc_seq ?_
  refine vc_region ?_
  refine vl_det (det_lss rfl rfl) rfl ?_
  refine vl_end [(0, _), (3, _), (12, _), (13, _), (14, _), (15, _)] ⟨rfl, rfl, rfl, rfl, rfl, rfl, trivial⟩ ?_
  refine then_next ?_
  refine vc_seq ?_
  refine vc_decideU rfl (fun h15 => ?_) (fun h15 => ?_)
  · skip
    have hpk : ((t :: r).getD k []).length ≤ 25 := h25 _ (by rw [List.getD_eq_getElem?_getD, List.getElem?_eq_getElem (show k < (t :: r).length by simp; omega)]; exact List.getElem_mem _)
    have hsk : (r.getD k []).length ≤ 25 := h25 _ (by simp [List.getD_eq_getElem?_getD, List.getElem?_eq_getElem (show k < r.length by omega)])
    have hlt := tailT_len t (r.take k) (fun s hs => h25 s (List.mem_cons_of_mem _ (List.mem_of_mem_take hs)))
    rw [List.length_take, Nat.min_eq_left (by omega)] at hlt
    have hle := lcp_le ((t :: r).getD k []) (r.getD k [])
    have hk45 : k * 45 ≤ 1000 * 45 := Nat.mul_le_mul_right _ (by omega)
    have htl := encT_len (s := t) (by omega)
    refine vc_skip ?_
    refine then_next ?_
    refine vc_seq ?_
    refine vc_block ?_
    refine vc_seq ?_
    refine vc_region ?_
    refine vl_det (det_move rfl) rfl ?_
    refine vl_det (det_indexAddr (size := 1) Try.underlying22 (by kernel_rfl) rfl rfl rfl (by omega) (by first | (exact Bor.own (by repeat (first | exact List.Mem.head _ | apply List.Mem.tail))) | (repeat (first | assumption | apply Bor.cons)))) rfl ?_
    refine vl_det (det_load_str (b := r) (by kernel_rfl) rfl (by first | (exact Bor.own (by repeat (first | exact List.Mem.head _ | apply List.Mem.tail))) | (repeat (first | assumption | apply Bor.cons))) (by omega)) rfl ?_
    refine vl_det (det_assign rfl) rfl ?_
    refine vl_det (det_assign rfl) rfl ?_
    refine vl_end [(0, _), (3, _), (4, _), (5, _), (12, _), (13, _), (14, _)] ⟨rfl, rfl, rfl, rfl, rfl, rfl, rfl, trivial⟩ ?_
    refine then_next ?_
    refine vc_seq ?_
    refine vc_region ?_
    refine vl_det (det_move rfl) rfl ?_
    refine vl_det (det_move rfl) rfl ?_
    refine vl_det (det_indexAddr (i := k) (size := 1) Try.underlying22 (by kernel_rfl) rfl rfl rfl (by omega) (by first | (exact Bor.own (by repeat (first | exact List.Mem.head _ | apply List.Mem.tail))) | (repeat (first | assumption | apply Bor.cons)))) rfl ?_
    refine vl_det (det_load_str (b := t :: r) (by kernel_rfl) rfl (by first | (exact Bor.own (by repeat (first | exact List.Mem.head _ | apply List.Mem.tail))) | (repeat (first | assumption | apply Bor.cons))) (by omega)) rfl ?_
    refine vl_det (det_move rfl) rfl ?_
    refine vl_call co45 rfl (dsame_d ((t :: r).getD k []) (r.getD k []) (by omega)) rfl ?_
    rintro _ _ ⟨rfl, hLL⟩
    obtain rfl := hLL.symm
    refine vl_det (det_assign rfl) rfl ?_
    refine vl_end [(0, _), (3, _), (5, _), (6, _), (12, _), (13, _), (14, _)] ⟨rfl, rfl, rfl, rfl, rfl, rfl, rfl, trivial⟩ ?_
    refine then_next ?_
    refine vh_region (S := .own 5 1 A3 (encT t ++ tailT t (r.take k)).length c3 (bv (encT t ++ tailT t (r.take k))) :: F) (by kernel_rfl) (by repeat (first | exact List.Sublist.refl _ | exact List.nil_sublist _ | apply List.Sublist.cons_cons | apply List.Sublist.cons)) ?_
    refine vh_take 0 rfl (by kernel_rfl) (by kernel_rfl) (by kernel_rfl) (det_move rfl) rfl ?_
    refine vh_take 1 rfl (by kernel_rfl) (by kernel_rfl) (by kernel_rfl) (det_move rfl) rfl ?_
    refine vh_take 2 rfl (by kernel_rfl) (by kernel_rfl) (by kernel_rfl) (det_conv Try.underlying3 Try.underlying54 rfl (w_u64 (by omega) (by omega))) rfl ?_
    refine vh_take 4 rfl (by kernel_rfl) (by kernel_rfl) (by kernel_rfl) (det_move rfl) rfl ?_
    refine vh_take 5 rfl (by kernel_rfl) (by kernel_rfl) (by kernel_rfl) (det_move rfl) rfl ?_
    refine vh_take 6 rfl (by kernel_rfl) (by kernel_rfl) (by kernel_rfl) (det_str_lo Try.underlying9 rfl rfl rfl (by omega)) rfl ?_
    refine vh_one 3 (by kernel_rfl) ?_
    refine st_call rfl .no co26 rfl (num_d (lcp ((t :: r).getD k []) (r.getD k [])) (by omega)) rfl (by rintro _ _ ⟨A28, c28, rfl, rfl⟩; exact (by repeat (first | exact List.Sublist.refl _ | exact List.nil_sublist _ | apply List.Sublist.cons_cons | apply List.Sublist.cons))) ?_
    rintro _ _ ⟨A28, c28, rfl, hLL⟩
    obtain rfl := hLL.symm
    refine vh_one 7 (by kernel_rfl) ?_
    refine st_call rfl .no co44 rfl (text_d ((r.getD k []).drop (lcp ((t :: r).getD k []) (r.getD k []))) (by rw [List.length_drop]; omega)) rfl (by rintro _ _ ⟨A32, c32, rfl, rfl⟩; exact (by repeat (first | exact List.Sublist.refl _ | exact List.nil_sublist _ | apply List.Sublist.cons_cons | apply List.Sublist.cons))) ?_
    rintro _ _ ⟨A32, c32, rfl, hLL⟩
    obtain rfl := hLL.symm
    refine vh_one 8 (by kernel_rfl) ?_
    refine st_eff rfl .no (eff_build_lit slT76 [_, _, _] rfl rfl (by first | exact bv_one _ | exact strs_one _ | exact ints_one _ _ | (simp; done) | (simp [Value.oneCell']; done) | assumption) (by omega) (by omega)) rfl (by rintro _ _ ⟨A33, rfl, rfl⟩; exact (by repeat (first | exact List.Sublist.refl _ | exact List.nil_sublist _ | apply List.Sublist.cons_cons | apply List.Sublist.cons))) ?_
    rintro _ _ ⟨A33, rfl, rfl⟩
    refine vh_one 9 (by kernel_rfl) ?_
    refine st_call rfl .no co29 rfl (all_d (l := encT t ++ tailT t (r.take (k + 1))) (P := [(.slice A3 (encT t ++ tailT t (r.take k)).length c3, encT t ++ tailT t (r.take k)), (.slice A28 (encN (lcp ((t :: r).getD k []) (r.getD k []))).length c28, encN (lcp ((t :: r).getD k []) (r.getD k []))), (.slice A32 (encT ((r.getD k []).drop (lcp ((t :: r).getD k []) (r.getD k [])))).length c32, encT ((r.getD k []).drop (lcp ((t :: r).getD k []) (r.getD k []))))]) (by first | (exact Bor.own (by repeat (first | exact List.Mem.head _ | apply List.Mem.tail))) | (repeat (first | assumption | apply Bor.cons))) (by intro y hy; simp only [List.mem_cons, List.not_mem_nil, or_false] at hy; rcases hy with rfl | rfl | rfl <;> exact (by first | (exact Bor.own (by repeat (first | exact List.Mem.head _ | apply List.Mem.tail))) | (repeat (first | assumption | apply Bor.cons)))) rfl (by rw [tailT_take t r k (by omega)]; simp [Parts.all, List.append_assoc]) (by rw [List.length_append]; have := tailT_len t (r.take (k + 1)) (fun s hs => h25 s (List.mem_cons_of_mem _ (List.mem_of_mem_take hs))); rw [List.length_take] at this; omega) (by simp)) rfl (by rintro _ _ ⟨A34, c34, rfl, rfl⟩; exact (by repeat (first | exact List.Sublist.refl _ | exact List.nil_sublist _ | apply List.Sublist.cons_cons | apply List.Sublist.cons))) ?_
    rintro _ _ ⟨A34, c34, rfl, hLL⟩
    obtain rfl := hLL.symm
    refine vh_take 10 rfl (by kernel_rfl) (by kernel_rfl) (by kernel_rfl) (det_assign rfl) rfl ?_
    refine vh_done [(0, _), (3, _), (12, _), (13, _), (14, _)] ⟨rfl, rfl, rfl, rfl, rfl, trivial⟩ (by kernel_rfl) ?_
    refine in_normal ?_
    refine then_next ?_
    refine vc_region ?_
    refine vl_det (det_add rfl rfl (w_i64 (by omega) (by omega))) rfl ?_
    refine vl_det (det_move rfl) rfl ?_
    refine vl_end [(0, _), (3, _), (12, _), (13, _), (14, _)] ⟨rfl, rfl, rfl, rfl, rfl, trivial⟩ ?_
    refine in_loop_ ⟨_, by omega, k + 1, A34, c34, by omega, rfl, ⟨(by first | rfl | exact int_to (by omega) | exact sl_to (by omega)), (by first | rfl | exact int_to (by omega) | exact sl_to (by omega)), (by first | rfl | exact int_to (by omega) | exact sl_to (by omega)), (by first | rfl | exact int_to (by omega) | exact sl_to (by omega)), (by first | rfl | exact int_to (by omega) | exact sl_to (by omega)), trivial⟩, .cons (.skip (.skip (.skip (.skip (.refl _)))))⟩
  · skip
    refine vc_exit ?_
    refine then_exit ?_
    refine loop_exit ?_
    refine in_eq ?_
    refine then_next ?_
    refine vc_seq ?_
    refine vc_region ?_
    refine vl_det (det_move rfl) rfl ?_
    refine vl_det (det_assign rfl) rfl ?_
    refine vl_end [(2, _)] ⟨rfl, trivial⟩ ?_
    refine then_next ?_
    refine vc_ret ?_
    obtain rfl : k = r.length := by omega
    rw [List.take_length]
    refine ret1 rfl rfl ?_
    exact ⟨A3, c3, rfl, rfl⟩
end Go.Proofs.Ytbkaoncopohdbaa
