/-
  'WordsHas': a record's terms rise, are terms, and are just its texts' words. No condition.
-/
import Derived.Test.YtfooomfdokkiaaaSplitD
import Derived.Test.YtfooomfdokkiaaaTermR
import Derived.Test.YtfooomfdokkiaaaWd3
import Derived.Test.YtfooomfdokkiaaaRec
import Derived.Test.YtfooomfdokkiaaaAgg
import Derived.Test.YtfooomfdokkiaaaRows
import Derived.Test.YtfooomfdokkiaaaOpen
namespace Go.Proofs.Ytfooomfdokkiaaa.lawWordsHas
open Go.ChangeShapes Go.WideShapes Go.ChangeAt Go.RowKit
open Go.ChangeMaps (open_string shut_string)
set_option linter.unusedVariables false
set_option maxRecDepth 20000
theorem term_of {txt src t : List UInt8} (h : t ∈ termsL txt src) : termL t = true := by
  rcases List.mem_append.1 ((setT_mem _ _).1 h) with h | h
  · exact term_ok (word_ok h)
  · obtain ⟨u, hu, rfl⟩ := List.mem_map.1 h
    exact term_at (word_ok hu)
theorem term_dT {B : Nat} {w0 : World} {F : List Ch} {t : List UInt8} (h : termL t = true) : Does Try.prog B w0 17 [.string ⟨t.toArray⟩] F (fun r L => r = .bool true ∧ L = F) :=
  (term_d t).mono fun r L k => ⟨k.1.trans (by rw [h]), k.2⟩
theorem has_of (txt src s : List UInt8) : s ∈ termsL txt src ↔ (s ∈ wordsL txt ∨ ((0 < s.length ∧ s.getD 0 0 = 64) ∧ s.drop 1 ∈ wordsL src)) := by
  unfold termsL
  rw [setT_mem, rawT, List.mem_append]
  refine or_congr Iff.rfl ?_
  constructor
  · intro h
    obtain ⟨u, hu, rfl⟩ := List.mem_map.1 h
    exact ⟨⟨by simp, rfl⟩, hu⟩
  · rintro ⟨⟨h1, h2⟩, h3⟩
    rcases s with _ | ⟨c, r⟩
    · simp at h1
    · simp at h2 h3
      subst h2
      exact List.mem_map.2 ⟨r, h3, rfl⟩
theorem walk (w : World) (x : RecC) (hx : RecC.ok x) (s0 : ByteArray) (hs : s0.size ≤ maxLen) :
    Calls Try.prog 9 #[.agg (RecC.cells x).toArray, .string s0] w fun e w' => e = .returned (.bool true) ∧ Below w.heap.size w w' := by
  obtain ⟨s, rfl⟩ : ∃ t : List UInt8, s0 = ⟨t.toArray⟩ := ⟨s0.data.toList, by simp⟩
  obtain ⟨tm, lv, src, txt⟩ := x
  obtain ⟨_, _, hx3, hx4⟩ := hx
  have hs : s.length ≤ maxLen := hs
  simp only [maxLen] at hx3 hx4 hs
  have hrl := rawT_len txt src
  have htl := Nat.le_trans (setT_len (rawT txt src)) hrl
  change (termsL txt src).length ≤ _ at htl
  have hw1 := wordsL_len txt
  have hw2 := wordsL_len src
  have hterm := fun t (h : t ∈ termsL txt src) => term_of h
  have hhas := has_of txt src s
  have hst : StT (termsL txt src) := setT_st _
  obtain ⟨T, hT⟩ : ∃ T, T = termsL txt src := ⟨_, rfl⟩
  have htd := fun F h1 h2 => @terms_d w.heap.size w F (.int .u64 tm) (.int .u8 (lv.toNat : Int)) txt src h1 h2
  rw [← hT] at htl hterm hhas hst htd
  clear hT
  obtain ⟨a, ha⟩ : ∃ a, a = Value.int .u64 tm := ⟨_, rfl⟩
  obtain ⟨b, hb⟩ : ∃ b, b = Value.int .u8 (lv.toNat : Int) := ⟨_, rfl⟩
  have e : RecC.cells (tm, lv, src, txt) = [a, b, .string ⟨src.toArray⟩, .string ⟨txt.toArray⟩] := by rw [ha, hb]; rfl
  rw [e]
  rw [← ha, ← hb] at htd
  clear e ha hb
  refine Does.law (args := [.agg #[a, b, .string ⟨src.toArray⟩, .string ⟨txt.toArray⟩], .string ⟨s.toArray⟩]) ?_
  refine fn_walk Try.func9 76 rfl rfl rfl [(0, .agg #[a, b, .string ⟨src.toArray⟩, .string ⟨txt.toArray⟩]), (1, .string ⟨s.toArray⟩)] ⟨⟨rfl, rfl⟩, ⟨rfl, rfl⟩, trivial⟩ ?_
  refine vc_seq ?_
  refine vc_region ?_
  refine vl_eff (eff_box rfl rfl) rfl ?_
  rintro _ _ ⟨g2, rfl, rfl⟩
  refine vl_det (det_assign rfl) rfl ?_
  refine vl_end [(1, _), (2, _)] ⟨rfl, rfl, trivial⟩ ?_
  refine then_next ?_
  refine vc_seq ?_
  refine vc_seq ?_
  refine vc_region ?_
  refine vl_call co10 rfl (alive_d) rfl ?_
  rintro _ _ ⟨rfl, hLL⟩
  obtain rfl := hLL.symm
  refine vl_det (det_not_t rfl) rfl ?_
  refine vl_end [(1, _), (2, _), (8, _)] ⟨rfl, rfl, rfl, trivial⟩ ?_
  refine then_next ?_
  refine vc_cond_f rfl ?_
  refine vc_skip ?_
  refine then_next ?_
  refine vc_seq ?_
  refine vc_seq ?_
  refine vc_region ?_
  refine vl_det (det_fieldAddr_ Try.underlying38 rfl (by kernel_rfl) rfl rfl) rfl ?_
  refine vl_det (det_load_blk (by kernel_rfl) rfl (by repeat (first | exact .hd | apply Sel.tl)) rfl) rfl ?_
  refine vl_det (det_len_s Try.underlying9 rfl) rfl ?_
  refine vl_det (det_gtr rfl rfl) rfl ?_
  refine vl_det (det_move rfl) rfl ?_
  refine vl_guardn rfl rfl rfl (fun h13 => ?_) (fun h13 => ?_)
  · skip
    refine vl_det (det_fieldAddr_ Try.underlying38 rfl (by kernel_rfl) rfl rfl) rfl ?_
    refine vl_guard_t rfl rfl ?_
    refine vl_det (det_load_blk (by kernel_rfl) rfl (by repeat (first | exact .hd | apply Sel.tl)) rfl) rfl ?_
    refine vl_guard_t rfl rfl ?_
    refine vl_det (det_len_s Try.underlying9 rfl) rfl ?_
    refine vl_guard_t rfl rfl ?_
    refine vl_det (det_gtr rfl rfl) rfl ?_
    refine vl_det (det_pick_f rfl rfl) rfl ?_
    refine vl_end [(1, _), (2, _), (18, _)] ⟨rfl, rfl, rfl, trivial⟩ ?_
    refine then_next ?_
    refine vc_decideU rfl (fun h18 => ?_) (fun h18 => ?_)
    · skip
      refine vc_seq ?_
      refine vc_region ?_
      refine vl_det (det_assign rfl) rfl ?_
      refine vl_end [(4, _)] ⟨rfl, trivial⟩ ?_
      refine then_next ?_
      refine vc_ret ?_
      refine then_ret ?_
      refine ret1 rfl rfl ?_
      rfl
    · skip
      refine vc_skip ?_
      refine then_next ?_
      refine vc_seq ?_
      refine vc_region ?_
      refine vl_det (det_load_whole 4 (by kernel_rfl) rfl (by repeat (first | exact .hd | apply Sel.tl)) (by first | rfl | (simp; omega) | (simp [*]; done))) rfl ?_
      refine vl_call co19 rfl (htd _ (by omega) (by omega)) rfl ?_
      rintro _ _ ⟨A20, c20, rfl, hLL⟩
      obtain rfl := hLL.symm
      refine vl_det (det_assign rfl) rfl ?_
      refine vl_end [(1, _), (2, _), (5, _)] ⟨rfl, rfl, rfl, trivial⟩ ?_
      refine then_next ?_
      refine vc_seq ?_
      refine vc_seq ?_
      refine vc_region ?_
      refine vl_det (det_assign rfl) rfl ?_
      refine vl_end [(1, _), (2, _), (5, _), (6, _)] ⟨rfl, rfl, rfl, rfl, trivial⟩ ?_
      refine then_next ?_
      refine vc_block ?_
      refine vc_loopJ (fun zf zL zm => ∃ (k : Nat), (k ≤ T.length) ∧ T.length - k = zm ∧ Sub zf [(1, .string ⟨s.toArray⟩), (2, .pointer (some ⟨g2, 0, none⟩)), (5, .slice A20 T.length c20), (6, .int .i64 k)] ∧ Wk zL (.own 9 1 A20 T.length c20 (strs T) :: .blk g2 38 [a, b, .string ⟨src.toArray⟩, .string ⟨txt.toArray⟩] :: [])) _ ⟨0, Nat.zero_le _, rfl, ⟨(by first | rfl | exact int_to (by omega) | exact sl_to (by omega)), (by first | rfl | exact int_to (by omega) | exact sl_to (by omega)), (by first | rfl | exact int_to (by omega) | exact sl_to (by omega)), (by first | rfl | exact int_to (by omega) | exact sl_to (by omega)), trivial⟩, .refl _⟩ ?_
      rintro _ _ _ ⟨k, hk, rfl, hs, hp⟩
      refine vc_weaken _ hs (vc_wk hp ?_)
      clear hs hp
      refine vc_seq ?_
      refine vc_seq ?_
      refine vc_region ?_
      refine vl_det (det_move rfl) rfl ?_
      refine vl_det (det_move rfl) rfl ?_
      refine vl_det (det_len_sl Try.underlying24 rfl) rfl ?_
      refine vl_det (det_lss rfl rfl) rfl ?_
      refine vl_end [(1, _), (2, _), (5, _), (6, _), (24, _)] ⟨rfl, rfl, rfl, rfl, rfl, trivial⟩ ?_
      refine then_next ?_
      refine vc_decideU rfl (fun h24 => ?_) (fun h24 => ?_)
      · skip
        have htk := hterm _ (getD_mem (l := T) (k := k) (by omega) [])
        refine vc_skip ?_
        refine then_next ?_
        refine vc_seq ?_
        refine vc_block ?_
        refine vc_seq ?_
        refine vq_region (by kernel_rfl) (by kernel_rfl) ?_
        refine vq_det (det_move rfl) rfl ?_
        refine vq_det (det_move rfl) rfl ?_
        refine vq_det (det_indexAddr (size := 1) Try.underlying24 (by kernel_rfl) rfl rfl rfl (by omega) (by first | (exact Bor.own (by repeat (first | exact List.Mem.head _ | apply List.Mem.tail))) | (repeat (first | assumption | apply Bor.cons)))) rfl ?_
        refine vq_det (det_load_str (by kernel_rfl) rfl (by first | (exact Bor.own (by repeat (first | exact List.Mem.head _ | apply List.Mem.tail))) | (repeat (first | assumption | apply Bor.cons))) (by omega)) rfl ?_
        refine vq_call co17 rfl (term_dT htk) (by rintro _ _ ⟨rfl, rfl⟩; exact ⟨rfl, List.Sublist.refl _⟩) rfl ?_
        refine vq_det (det_not_t rfl) rfl ?_
        refine vq_det (det_move rfl) rfl ?_
        refine vq_guard_t rfl rfl ?_
        refine vq_det (det_move rfl) rfl ?_
        refine vq_guard_t rfl rfl ?_
        refine vq_det (det_gtr rfl rfl) rfl ?_
        refine vq_guard_t rfl rfl ?_
        refine vq_det (det_move rfl) rfl ?_
        refine vq_guardp rfl rfl rfl (fun h36 => ?_) (fun h36 => ?_)
        · skip
          refine vq_det (det_move rfl) rfl ?_
          refine vq_guard_t rfl rfl ?_
          refine vq_det (det_move rfl) rfl ?_
          refine vq_guard_t rfl rfl ?_
          refine vq_det (det_indexAddr (size := 1) Try.underlying24 (by kernel_rfl) rfl rfl rfl (by omega) (by first | (exact Bor.own (by repeat (first | exact List.Mem.head _ | apply List.Mem.tail))) | (repeat (first | assumption | apply Bor.cons)))) rfl ?_
          refine vq_guard_t rfl rfl ?_
          refine vq_det (det_load_str (by kernel_rfl) rfl (by first | (exact Bor.own (by repeat (first | exact List.Mem.head _ | apply List.Mem.tail))) | (repeat (first | assumption | apply Bor.cons))) (by omega)) rfl ?_
          refine vq_guard_t rfl rfl ?_
          refine vq_det (det_move rfl) rfl ?_
          refine vq_guard_t rfl rfl ?_
          refine vq_det (det_move rfl) rfl ?_
          refine vq_guard_t rfl rfl ?_
          refine vq_det (det_sub rfl rfl (r := ((k - 1 : Nat) : Int)) ((w_i64 (by omega) (by omega)).trans (by omega))) rfl ?_
          refine vq_guard_t rfl rfl ?_
          refine vq_det (det_indexAddr (size := 1) Try.underlying24 (by kernel_rfl) rfl rfl rfl (by omega) (by first | (exact Bor.own (by repeat (first | exact List.Mem.head _ | apply List.Mem.tail))) | (repeat (first | assumption | apply Bor.cons)))) rfl ?_
          refine vq_guard_t rfl rfl ?_
          refine vq_det (det_load_str (b := T) (j := k - 1) (by kernel_rfl) rfl (by first | (exact Bor.own (by repeat (first | exact List.Mem.head _ | apply List.Mem.tail))) | (repeat (first | assumption | apply Bor.cons))) (by omega)) rfl ?_
          refine vq_guard_t rfl rfl ?_
          refine vq_det (det_s_leqD rfl rfl) rfl ?_
          refine vq_guard_t rfl rfl ?_
          refine vq_det (det_pick_t rfl rfl) rfl ?_
          refine vq_det (det_pick_f rfl rfl) rfl ?_
          refine vq_end [(1, _), (2, _), (5, _), (6, _), (48, _)] ⟨rfl, rfl, rfl, rfl, rfl, trivial⟩ ?_
          refine then_next ?_
          refine vc_decideU rfl (fun h48 => ?_) (fun h48 => ?_)
          · skip
            exfalso; exact not_leT.2 (by have := List.pairwise_iff_getElem.1 hst (k - 1) k (by omega) (by omega) (by omega); simpa [List.getD, List.getElem?_eq_getElem (show k < T.length by omega), List.getElem?_eq_getElem (show k - 1 < T.length by omega)] using this) h48
          · skip
            refine vc_skip ?_
            refine in_normal ?_
            refine then_next ?_
            refine vc_region ?_
            refine vl_det (det_move rfl) rfl ?_
            refine vl_det (det_add rfl rfl (w_i64 (by omega) (by omega))) rfl ?_
            refine vl_det (det_assign rfl) rfl ?_
            refine vl_end [(1, _), (2, _), (5, _), (6, _)] ⟨rfl, rfl, rfl, rfl, trivial⟩ ?_
            refine in_loop_ ⟨_, by omega, k + 1, by omega, rfl, ⟨(by first | rfl | exact int_to (by omega) | exact sl_to (by omega)), (by first | rfl | exact int_to (by omega) | exact sl_to (by omega)), (by first | rfl | exact int_to (by omega) | exact sl_to (by omega)), (by first | rfl | exact int_to (by omega) | exact sl_to (by omega)), trivial⟩, .refl _⟩
        · skip
          refine vq_guard_f rfl rfl rfl rfl ?_
          refine vq_guard_f rfl rfl rfl rfl ?_
          refine vq_guard_f rfl rfl rfl rfl ?_
          refine vq_guard_f rfl rfl rfl rfl ?_
          refine vq_guard_f rfl rfl rfl rfl ?_
          refine vq_guard_f rfl rfl rfl rfl ?_
          refine vq_guard_f rfl rfl rfl rfl ?_
          refine vq_guard_f rfl rfl rfl rfl ?_
          refine vq_guard_f rfl rfl rfl rfl ?_
          refine vq_guard_t rfl rfl ?_
          refine vq_det (det_pick_f rfl rfl) rfl ?_
          refine vq_det (det_pick_f rfl rfl) rfl ?_
          refine vq_end [(1, _), (2, _), (5, _), (6, _), (48, _)] ⟨rfl, rfl, rfl, rfl, rfl, trivial⟩ ?_
          refine then_next ?_
          refine vc_cond_f rfl ?_
          refine vc_skip ?_
          refine in_normal ?_
          refine then_next ?_
          refine vc_region ?_
          refine vl_det (det_move rfl) rfl ?_
          refine vl_det (det_add rfl rfl (w_i64 (by omega) (by omega))) rfl ?_
          refine vl_det (det_assign rfl) rfl ?_
          refine vl_end [(1, _), (2, _), (5, _), (6, _)] ⟨rfl, rfl, rfl, rfl, trivial⟩ ?_
          refine in_loop_ ⟨_, by omega, k + 1, by omega, rfl, ⟨(by first | rfl | exact int_to (by omega) | exact sl_to (by omega)), (by first | rfl | exact int_to (by omega) | exact sl_to (by omega)), (by first | rfl | exact int_to (by omega) | exact sl_to (by omega)), (by first | rfl | exact int_to (by omega) | exact sl_to (by omega)), trivial⟩, .refl _⟩
      · skip
        refine vc_exit ?_
        refine then_exit ?_
        refine loop_exit ?_
        refine in_eq ?_
        refine then_next ?_
        refine vc_seq ?_
        refine vh_region (S := .own 9 1 A20 T.length c20 (strs T) :: .blk g2 38 [a, b, .string ⟨src.toArray⟩, .string ⟨txt.toArray⟩] :: []) (by kernel_rfl) (by repeat (first | exact List.Sublist.refl _ | exact List.nil_sublist _ | apply List.Sublist.cons_cons | apply List.Sublist.cons)) ?_
        refine vh_take 0 rfl (by kernel_rfl) (by kernel_rfl) (by kernel_rfl) (det_move rfl) rfl ?_
        refine vh_take 1 rfl (by kernel_rfl) (by kernel_rfl) (by kernel_rfl) (det_move rfl) rfl ?_
        refine vh_take 3 rfl (by kernel_rfl) (by kernel_rfl) (by kernel_rfl) (det_fieldAddr_ Try.underlying38 rfl (by kernel_rfl) rfl rfl) rfl ?_
        refine vh_take 4 rfl (by kernel_rfl) (by kernel_rfl) (by kernel_rfl) (det_load_blk (by kernel_rfl) rfl (by repeat (first | exact .hd | apply Sel.tl)) rfl) rfl ?_
        refine vh_take 6 rfl (by kernel_rfl) (by kernel_rfl) (by kernel_rfl) (det_move rfl) rfl ?_
        refine vh_one 2 (by kernel_rfl) ?_
        refine st_call rfl .no co21 rfl (has_d s (by first | (exact Bor.own (by repeat (first | exact List.Mem.head _ | apply List.Mem.tail))) | (repeat (first | assumption | apply Bor.cons))) (by omega)) rfl (by rintro _ _ ⟨rfl, rfl⟩; exact (by repeat (first | exact List.Sublist.refl _ | exact List.nil_sublist _ | apply List.Sublist.cons_cons | apply List.Sublist.cons))) ?_
        rintro _ _ ⟨rfl, hLL⟩
        obtain rfl := hLL.symm
        refine vh_one 5 (by kernel_rfl) ?_
        refine st_call rfl .no co13 rfl (rwords_d txt (by omega)) rfl (by rintro _ _ ⟨A54, c54, rfl, rfl⟩; exact (by repeat (first | exact List.Sublist.refl _ | exact List.nil_sublist _ | apply List.Sublist.cons_cons | apply List.Sublist.cons))) ?_
        rintro _ _ ⟨A54, c54, rfl, hLL⟩
        obtain rfl := hLL.symm
        refine vh_one 7 (by kernel_rfl) ?_
        refine st_call rfl .no co21 rfl (has_d s (by first | (exact Bor.own (by repeat (first | exact List.Mem.head _ | apply List.Mem.tail))) | (repeat (first | assumption | apply Bor.cons))) (by omega)) rfl (by rintro _ _ ⟨rfl, rfl⟩; exact (by repeat (first | exact List.Sublist.refl _ | exact List.nil_sublist _ | apply List.Sublist.cons_cons | apply List.Sublist.cons))) ?_
        rintro _ _ ⟨rfl, hLL⟩
        obtain rfl := hLL.symm
        refine vh_take 8 rfl (by kernel_rfl) (by kernel_rfl) (by kernel_rfl) (det_move rfl) rfl ?_
        refine vh_split 57 rfl (fun h57 => ?_) (fun h57 => ?_)
        · skip
          refine vh_take_f 9 rfl (by kernel_rfl) (by kernel_rfl) (by kernel_rfl) rfl rfl rfl rfl ?_
          refine vh_take_f 10 rfl (by kernel_rfl) (by kernel_rfl) (by kernel_rfl) rfl rfl rfl rfl ?_
          refine vh_take_f 11 rfl (by kernel_rfl) (by kernel_rfl) (by kernel_rfl) rfl rfl rfl rfl ?_
          refine vh_take_f 12 rfl (by kernel_rfl) (by kernel_rfl) (by kernel_rfl) rfl rfl rfl rfl ?_
          refine vh_take_u 13 rfl (by kernel_rfl) (by kernel_rfl) (by kernel_rfl) rfl rfl rfl ?_
          refine vh_take_u 14 rfl (by kernel_rfl) (by kernel_rfl) (by kernel_rfl) rfl rfl rfl ?_
          refine vh_take_u 15 rfl (by kernel_rfl) (by kernel_rfl) (by kernel_rfl) rfl rfl rfl ?_
          refine vh_take_f 16 rfl (by kernel_rfl) (by kernel_rfl) (by kernel_rfl) rfl rfl rfl rfl ?_
          refine vh_take_f 17 rfl (by kernel_rfl) (by kernel_rfl) (by kernel_rfl) rfl rfl rfl rfl ?_
          refine vh_take_u 18 rfl (by kernel_rfl) (by kernel_rfl) (by kernel_rfl) rfl rfl rfl ?_
          refine vh_take_u 19 rfl (by kernel_rfl) (by kernel_rfl) (by kernel_rfl) rfl rfl rfl ?_
          refine vh_take_u 20 rfl (by kernel_rfl) (by kernel_rfl) (by kernel_rfl) rfl rfl rfl ?_
          refine vh_take_u 21 rfl (by kernel_rfl) (by kernel_rfl) (by kernel_rfl) rfl rfl rfl ?_
          refine vh_take_u 22 rfl (by kernel_rfl) (by kernel_rfl) (by kernel_rfl) rfl rfl rfl ?_
          refine vh_take_u 23 rfl (by kernel_rfl) (by kernel_rfl) (by kernel_rfl) rfl rfl rfl ?_
          refine vh_take_f 24 rfl (by kernel_rfl) (by kernel_rfl) (by kernel_rfl) rfl rfl rfl rfl ?_
          refine vh_take 25 rfl (by kernel_rfl) (by kernel_rfl) (by kernel_rfl) (det_pick_t rfl rfl) rfl ?_
          refine vh_take 26 rfl (by kernel_rfl) (by kernel_rfl) (by kernel_rfl) (det_bool_eql Try.underlying4 rfl rfl) rfl ?_
          refine vh_take 27 rfl (by kernel_rfl) (by kernel_rfl) (by kernel_rfl) (det_assign rfl) rfl ?_
          refine vh_done [(4, _)] ⟨rfl, trivial⟩ (by kernel_rfl) ?_
          refine then_next ?_
          refine vc_ret ?_
          refine ret1 rfl rfl ?_
          rw [decide_eq_true (hhas.2 (.inl h57))]; rfl
        · skip
          refine vh_take_g 9 rfl (by kernel_rfl) (by kernel_rfl) (by kernel_rfl) rfl rfl (det_move rfl) rfl ?_
          refine vh_take_g 10 rfl (by kernel_rfl) (by kernel_rfl) (by kernel_rfl) rfl rfl (det_len_s Try.underlying9 rfl) rfl ?_
          refine vh_take_g 11 rfl (by kernel_rfl) (by kernel_rfl) (by kernel_rfl) rfl rfl (det_gtr rfl rfl) rfl ?_
          refine vh_take_g 12 rfl (by kernel_rfl) (by kernel_rfl) (by kernel_rfl) rfl rfl (det_move rfl) rfl ?_
          refine vh_split 61 rfl (fun h61 => ?_) (fun h61 => ?_)
          · skip
            refine vh_take_g 13 rfl (by kernel_rfl) (by kernel_rfl) (by kernel_rfl) rfl rfl (det_move rfl) rfl ?_
            refine vh_take_g 14 rfl (by kernel_rfl) (by kernel_rfl) (by kernel_rfl) rfl rfl (det_at_str (i := 0) Try.underlying9 rfl rfl rfl (by omega)) rfl ?_
            refine vh_take_g 15 rfl (by kernel_rfl) (by kernel_rfl) (by kernel_rfl) rfl rfl (det_eql rfl rfl) rfl ?_
            refine vh_take_g 16 rfl (by kernel_rfl) (by kernel_rfl) (by kernel_rfl) rfl rfl (det_pick_t rfl rfl) rfl ?_
            refine vh_take_g 17 rfl (by kernel_rfl) (by kernel_rfl) (by kernel_rfl) rfl rfl (det_move rfl) rfl ?_
            refine vh_split 66 rfl (fun h66 => ?_) (fun h66 => ?_)
            · skip
              refine vh_take_g 18 rfl (by kernel_rfl) (by kernel_rfl) (by kernel_rfl) rfl rfl (det_fieldAddr_ Try.underlying38 rfl (by kernel_rfl) rfl rfl) rfl ?_
              refine vh_take_g 19 rfl (by kernel_rfl) (by kernel_rfl) (by kernel_rfl) rfl rfl (det_load_blk (by kernel_rfl) rfl (by repeat (first | exact .hd | apply Sel.tl)) rfl) rfl ?_
              refine vh_take_g 21 rfl (by kernel_rfl) (by kernel_rfl) (by kernel_rfl) rfl rfl (det_move rfl) rfl ?_
              refine vh_take_g 22 rfl (by kernel_rfl) (by kernel_rfl) (by kernel_rfl) rfl rfl (det_str_lo (i := 1) Try.underlying9 rfl rfl rfl (by omega)) rfl ?_
              refine vh_one 20 (by kernel_rfl) ?_
              refine st_call rfl (.yes rfl rfl) co13 rfl (rwords_d src (by omega)) rfl (by rintro _ _ ⟨A69, c69, rfl, rfl⟩; exact (by repeat (first | exact List.Sublist.refl _ | exact List.nil_sublist _ | apply List.Sublist.cons_cons | apply List.Sublist.cons))) ?_
              rintro _ _ ⟨A69, c69, rfl, hLL⟩
              obtain rfl := hLL.symm
              refine vh_one 23 (by kernel_rfl) ?_
              refine st_call rfl (.yes rfl rfl) co21 rfl (has_d (s.drop 1) (by first | (exact Bor.own (by repeat (first | exact List.Mem.head _ | apply List.Mem.tail))) | (repeat (first | assumption | apply Bor.cons))) (by omega)) rfl (by rintro _ _ ⟨rfl, rfl⟩; exact (by repeat (first | exact List.Sublist.refl _ | exact List.nil_sublist _ | apply List.Sublist.cons_cons | apply List.Sublist.cons))) ?_
              rintro _ _ ⟨rfl, hLL⟩
              obtain rfl := hLL.symm
              refine vh_take_g 24 rfl (by kernel_rfl) (by kernel_rfl) (by kernel_rfl) rfl rfl (det_pick_t rfl rfl) rfl ?_
              refine vh_take 25 rfl (by kernel_rfl) (by kernel_rfl) (by kernel_rfl) (det_pick_f rfl rfl) rfl ?_
              refine vh_take 26 rfl (by kernel_rfl) (by kernel_rfl) (by kernel_rfl) (det_bool_eql Try.underlying4 rfl rfl) rfl ?_
              refine vh_take 27 rfl (by kernel_rfl) (by kernel_rfl) (by kernel_rfl) (det_assign rfl) rfl ?_
              refine vh_done [(4, _)] ⟨rfl, trivial⟩ (by kernel_rfl) ?_
              refine then_next ?_
              refine vc_ret ?_
              refine ret1 rfl rfl ?_
              have h64 : s.getD 0 0 = 64 := UInt8.toNat_inj.1 (by have : (64 : UInt8).toNat = 64 := rfl; omega)
              rw [decide_eq_decide.2 (hhas.trans ⟨fun h => h.elim (fun q => absurd q h57) (fun q => q.2), fun h => .inr ⟨⟨by omega, h64⟩, h⟩⟩), decide_eq_true rfl]
            · skip
              refine vh_take_f 18 rfl (by kernel_rfl) (by kernel_rfl) (by kernel_rfl) rfl rfl rfl rfl ?_
              refine vh_take_f 19 rfl (by kernel_rfl) (by kernel_rfl) (by kernel_rfl) rfl rfl rfl rfl ?_
              refine vh_take_f 20 rfl (by kernel_rfl) (by kernel_rfl) (by kernel_rfl) rfl rfl rfl rfl ?_
              refine vh_take_f 21 rfl (by kernel_rfl) (by kernel_rfl) (by kernel_rfl) rfl rfl rfl rfl ?_
              refine vh_take_f 22 rfl (by kernel_rfl) (by kernel_rfl) (by kernel_rfl) rfl rfl rfl rfl ?_
              refine vh_take_f 23 rfl (by kernel_rfl) (by kernel_rfl) (by kernel_rfl) rfl rfl rfl rfl ?_
              refine vh_take_g 24 rfl (by kernel_rfl) (by kernel_rfl) (by kernel_rfl) rfl rfl (det_pick_f rfl rfl) rfl ?_
              refine vh_take 25 rfl (by kernel_rfl) (by kernel_rfl) (by kernel_rfl) (det_pick_f rfl rfl) rfl ?_
              refine vh_take 26 rfl (by kernel_rfl) (by kernel_rfl) (by kernel_rfl) (det_bool_eql Try.underlying4 rfl rfl) rfl ?_
              refine vh_take 27 rfl (by kernel_rfl) (by kernel_rfl) (by kernel_rfl) (det_assign rfl) rfl ?_
              refine vh_done [(4, _)] ⟨rfl, trivial⟩ (by kernel_rfl) ?_
              refine then_next ?_
              refine vc_ret ?_
              refine ret1 rfl rfl ?_
              rw [decide_eq_false (fun h => (hhas.1 h).elim h57 (fun q => h66 (by rw [q.1.2]; rfl)))]; rfl
          · skip
            refine vh_take_f 13 rfl (by kernel_rfl) (by kernel_rfl) (by kernel_rfl) rfl rfl rfl rfl ?_
            refine vh_take_f 14 rfl (by kernel_rfl) (by kernel_rfl) (by kernel_rfl) rfl rfl rfl rfl ?_
            refine vh_take_f 15 rfl (by kernel_rfl) (by kernel_rfl) (by kernel_rfl) rfl rfl rfl rfl ?_
            refine vh_take_g 16 rfl (by kernel_rfl) (by kernel_rfl) (by kernel_rfl) rfl rfl (det_pick_f rfl rfl) rfl ?_
            refine vh_take_g 17 rfl (by kernel_rfl) (by kernel_rfl) (by kernel_rfl) rfl rfl (det_move rfl) rfl ?_
            refine vh_take_f 18 rfl (by kernel_rfl) (by kernel_rfl) (by kernel_rfl) rfl rfl rfl rfl ?_
            refine vh_take_f 19 rfl (by kernel_rfl) (by kernel_rfl) (by kernel_rfl) rfl rfl rfl rfl ?_
            refine vh_take_f 20 rfl (by kernel_rfl) (by kernel_rfl) (by kernel_rfl) rfl rfl rfl rfl ?_
            refine vh_take_f 21 rfl (by kernel_rfl) (by kernel_rfl) (by kernel_rfl) rfl rfl rfl rfl ?_
            refine vh_take_f 22 rfl (by kernel_rfl) (by kernel_rfl) (by kernel_rfl) rfl rfl rfl rfl ?_
            refine vh_take_f 23 rfl (by kernel_rfl) (by kernel_rfl) (by kernel_rfl) rfl rfl rfl rfl ?_
            refine vh_take_g 24 rfl (by kernel_rfl) (by kernel_rfl) (by kernel_rfl) rfl rfl (det_pick_f rfl rfl) rfl ?_
            refine vh_take 25 rfl (by kernel_rfl) (by kernel_rfl) (by kernel_rfl) (det_pick_f rfl rfl) rfl ?_
            refine vh_take 26 rfl (by kernel_rfl) (by kernel_rfl) (by kernel_rfl) (det_bool_eql Try.underlying4 rfl rfl) rfl ?_
            refine vh_take 27 rfl (by kernel_rfl) (by kernel_rfl) (by kernel_rfl) (det_assign rfl) rfl ?_
            refine vh_done [(4, _)] ⟨rfl, trivial⟩ (by kernel_rfl) ?_
            refine then_next ?_
            refine vc_ret ?_
            refine ret1 rfl rfl ?_
            rw [decide_eq_false (fun h => (hhas.1 h).elim h57 (fun q => h61 (by have := q.1.1; omega)))]; rfl
  · skip
    refine vl_guard_f rfl rfl rfl rfl ?_
    refine vl_guard_f rfl rfl rfl rfl ?_
    refine vl_guard_f rfl rfl rfl rfl ?_
    refine vl_det (det_pick_t rfl rfl) rfl ?_
    refine vl_end [(1, _), (2, _), (18, _)] ⟨rfl, rfl, rfl, trivial⟩ ?_
    refine then_next ?_
    refine vc_cond_t rfl ?_
    refine vc_seq ?_
    refine vc_region ?_
    refine vl_det (det_assign rfl) rfl ?_
    refine vl_end [(4, _)] ⟨rfl, trivial⟩ ?_
    refine then_next ?_
    refine vc_ret ?_
    refine then_ret ?_
    refine ret1 rfl rfl ?_
    rfl
theorem own : ownKnob Try.prog.godebug = none := by kernel_rfl
theorem laidOut : laidOutB Try.prog = true := by kernel_rfl
set_option maxRecDepth 100000 in
theorem lifted (os : Os) (started : os.Started) (H : Type) (enc : TypeId × Value → H) :
    ReturnsInHanded {} Try.checked os 9 .any (Rows.wordsHasSpec.pre6 enc Try.prog Try.f9 Rows.wordsHasRow.domain false) (Rows.wordsHasSpec.post enc Try.prog Try.f9 false true false false) := by
  refine returnsInHanded_of_change (C := Try.checked) own started (by kernel_rfl) Try.func9
    (ChangeSpec.witness6 (enc := enc) (C := Try.checked) false ⟨#[], #[(.agg #[.int .u64 0, .int .u8 0, .string ByteArray.empty, .string ByteArray.empty]), .string ByteArray.empty], []⟩ 8 (by kernel_rfl) (by kernel_rfl) (by kernel_rfl) (by kernel_rfl)) ?_
  intro W base args ds gs before hval0 hW hcnd _
  have hval : ∀ (j : Nat) t v, Try.f9.params[j]? = some t → args[j]? = some v → Value.okWide Try.prog W .any base t v := hval0
  have hW' := hW
  obtain ⟨p, q, hA0, hV, rfl, hfz, hnd⟩ := hW
  have hA : DataW.TrodAll enc Try.prog W 0 (fun _ => true) true Try.f9.params.toList args.toList ds p := hA0
  rw [Try.params9] at hA hval
  obtain ⟨v0', vs0, d0, ds0, p0, q0, hargs, rfl, rfl, h0', r0⟩ := trodAll_cons hA
  obtain ⟨v1', vs1, d1, ds1, p1, q1, rfl, rfl, rfl, h1', r1⟩ := trodAll_cons r0
  obtain ⟨rfl, rfl, rfl⟩ := trodAll_nil r1
  obtain rfl : args = #[v0', v1'] := by cases args; simp_all
  obtain ⟨rfl, rfl⟩ := trodVars_none hV
  have k0 := h0'
  have lt0 : ∀ x ∈ p0, x.block < W.heap.size := by obtain ⟨m, hm⟩ := k0; exact DataW.trod_lt m _ _ _ hm
  obtain ⟨x0, e0, w0⟩ := DecT.arg (w := W) (dec_rec W) k0
  obtain rfl := agg_of Try.underlying38 (hval 0 38 v0' rfl rfl) e0
  have k1 := h1'
  have lt1 : ∀ x ∈ p1, x.block < W.heap.size := by obtain ⟨m, hm⟩ := k1; exact DataW.trod_lt m _ _ _ hm
  obtain ⟨a1, rfl, hd1, hp1, w1⟩ := open_string Try.underlying9 (hval 1 9 v1' rfl rfl) h1'
  clear hA0 hval0
  refine (walk W x0 w0 a1 w1).mono fun e W' ⟨he, bel⟩ => ?_
  subst he
  exact ⟨_, rfl, _, _, _, [], _, [], hW', trodAll_mk1 (shut_bool Try.underlying4 _), (trodAll_cons_mk (Below.trod laidOut (by kernel_rfl) (of_decide_eq_true (by kernel_rfl)) k0 bel lt0) (trodAll_cons_mk (Below.trod laidOut (by kernel_rfl) (of_decide_eq_true (by kernel_rfl)) k1 bel lt1) trodAll_mk0)), rfl, bel.frame _, fun h => by cases h⟩

theorem over : Rows.wordsHasRow.holds Try.pinned (OpenSpec.ofChange Rows.wordsHasSpec) :=
  OpenClaim.holds_of_wide 9 Try.f9 rfl rfl rfl rfl rfl rfl rfl ⟨rfl, rfl, rfl, rfl, rfl⟩ rfl rfl rfl rfl rfl (by kernel_rfl) Try.func9 (by kernel_rfl)
    (of_decide_eq_true (by kernel_rfl)) (by unfold Func.isWrapper; first | (rw [if_pos (by decide +kernel)]; kernel_rfl) | (rw [if_neg (by decide +kernel)]; exact ⟨rfl, rfl⟩))
    (fun os started H enc _ => lifted os started H enc)

theorem proved : Rows.WordsHasSaid := over
#print axioms proved
end Go.Proofs.Ytfooomfdokkiaaa.lawWordsHas
