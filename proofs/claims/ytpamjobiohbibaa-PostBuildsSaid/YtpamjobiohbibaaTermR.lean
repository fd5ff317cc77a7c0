/-
  The document's Put and Terms, by frames. Conditions: texts are no longer than 2^38.
-/
import Derived.Test.YtpamjobiohbibaaRefW
import Derived.Test.YtpamjobiohbibaaWordOk
import Derived.Test.YtpamjobiohbibaaTermP
namespace Go.Proofs.Ytpamjobiohbibaa
open Go.RowKit
set_option linter.unusedVariables false
set_option maxRecDepth 20000
variable {B : Nat} {w0 : World} {F : List Ch} {A A1 A2 : Option Addr} {n c c1 c2 g : Nat}
theorem rput_d {l : List Txt} (hS : StT l) (hl : l.length ≤ 1000000000000) (t : Txt) :
    Does Try.prog B w0 32 [.slice A l.length c, .string ⟨t.toArray⟩] (.own 9 1 A l.length c (strs l) :: F) (fun r L => ∃ A' c', r = .slice A' (putL l t).length c' ∧ L = .own 9 1 A' (putL l t).length c' (strs (putL l t)) :: F) := by
  refine fn_walk Try.func32 48 rfl rfl rfl [(0, .slice A l.length c), (1, .string ⟨t.toArray⟩)] ⟨⟨rfl, rfl⟩, ⟨rfl, rfl⟩, trivial⟩ ?_
  refine vc_seq ?_
  refine vc_region ?_
  refine vl_det (det_assign rfl) rfl ?_
  refine vl_end [(0, _), (1, _)] ⟨rfl, rfl, trivial⟩ ?_
  refine then_next ?_
  refine vc_seq ?_
  refine vc_region ?_
  refine vl_det (det_assign rfl) rfl ?_
  refine vl_end [(0, _), (1, _), (5, _)] ⟨rfl, rfl, rfl, trivial⟩ ?_
  refine then_next ?_
  refine vc_seq ?_
  refine vc_block ?_
  refine vc_loopJ (fun zf zL zm => ∃ (k : Nat), (k ≤ l.length ∧ (∀ i, i < k → ltT (l.getD i []) t)) ∧ l.length - k = zm ∧ Sub zf [(0, .slice A l.length c), (1, .string ⟨t.toArray⟩), (5, .int .i64 k)] ∧ Wk zL (.own 9 1 A l.length c (strs l) :: F)) _ ⟨0, ⟨Nat.zero_le _, fun i h => absurd h (by omega)⟩, rfl, ⟨(by first | rfl | exact int_to (by omega) | exact sl_to (by omega)), (by first | rfl | exact int_to (by omega) | exact sl_to (by omega)), (by first | rfl | exact int_to (by omega) | exact sl_to (by omega)), trivial⟩, .refl _⟩ ?_
  rintro _ _ _ ⟨k, ⟨hk, hlo⟩, rfl, hs, hp⟩
  refine vc_weaken _ hs (vc_wk hp ?_)
  clear hs hp
  refine vc_seq ?_
  refine vc_seq ?_
  refine vc_region ?_
  refine vl_cut 12 18 [(0, _), (1, _), (5, _)] ((k : Int) < l.length ∧ Op.bytesLess (l.getD k []) t = true) ⟨rfl, rfl, rfl, trivial⟩ ?_ ?_
  · skip
    refine vl_det (det_move rfl) rfl ?_
    refine vl_det (det_move rfl) rfl ?_
    refine vl_det (det_len_sl Try.underlying26 rfl) rfl ?_
    refine vl_det (det_lss rfl rfl) rfl ?_
    refine vl_det (det_move rfl) rfl ?_
    refine vl_guardp rfl rfl rfl (fun h11 => ?_) (fun h11 => ?_)
    · skip
      refine vl_det (det_move rfl) rfl ?_
      refine vl_guard_t rfl rfl ?_
      refine vl_det (det_move rfl) rfl ?_
      refine vl_guard_t rfl rfl ?_
      refine vl_det (det_indexAddr (size := 1) Try.underlying26 (by kernel_rfl) rfl rfl rfl (by omega) (by first | (exact Bor.own (by repeat (first | exact List.Mem.head _ | apply List.Mem.tail))) | (repeat (first | assumption | apply Bor.cons)))) rfl ?_
      refine vl_guard_t rfl rfl ?_
      refine vl_det (det_load_str (b := l) (j := k) (by kernel_rfl) rfl (by first | (exact Bor.own (by repeat (first | exact List.Mem.head _ | apply List.Mem.tail))) | (repeat (first | assumption | apply Bor.cons))) (by omega)) rfl ?_
      refine vl_guard_t rfl rfl ?_
      refine vl_det (det_move rfl) rfl ?_
      refine vl_guard_t rfl rfl ?_
      refine vl_det (det_s_lssD rfl rfl) rfl ?_
      refine vl_det (det_pick_t rfl rfl) rfl ?_
      exact vl_cut_end ⟨rfl, rfl, rfl, trivial⟩ (by first | rfl | exact bool_to_t (by first | omega | simp_all) | exact bool_to_f (by first | omega | simp_all) | exact bool_to (by first | omega | simp_all) | exact bool_to_b (by first | omega | simp_all))
    · skip
      refine vl_guard_f rfl rfl rfl rfl ?_
      refine vl_guard_f rfl rfl rfl rfl ?_
      refine vl_guard_f rfl rfl rfl rfl ?_
      refine vl_guard_f rfl rfl rfl rfl ?_
      refine vl_guard_f rfl rfl rfl rfl ?_
      refine vl_det (det_pick_f rfl rfl) rfl ?_
      exact vl_cut_end ⟨rfl, rfl, rfl, trivial⟩ (by first | rfl | exact bool_to_t (by first | omega | simp_all) | exact bool_to_f (by first | omega | simp_all) | exact bool_to (by first | omega | simp_all) | exact bool_to_b (by first | omega | simp_all))
  · skip
    refine vl_end [(0, _), (1, _), (5, _), (18, _)] ⟨rfl, rfl, rfl, rfl, trivial⟩ ?_
    refine then_next ?_
    refine vc_decideU rfl (fun h18 => ?_) (fun h18 => ?_)
    · skip
      refine vc_skip ?_
      refine then_next ?_
      refine vc_block ?_
      refine vc_region ?_
      refine vl_det (det_move rfl) rfl ?_
      refine vl_det (det_add rfl rfl (w_i64 (by omega) (by omega))) rfl ?_
      refine vl_det (det_assign rfl) rfl ?_
      refine vl_end [(0, _), (1, _), (5, _)] ⟨rfl, rfl, rfl, trivial⟩ ?_
      refine in_normal ?_
      refine in_loop_ ⟨_, by omega, k + 1, ⟨by omega, fun i hi => by
  rcases Nat.lt_or_ge i k with h | h
  · exact hlo i h
  · rw [show i = k by omega]; exact h18.2⟩, rfl, ⟨(by first | rfl | exact int_to (by omega) | exact sl_to (by omega)), (by first | rfl | exact int_to (by omega) | exact sl_to (by omega)), (by first | rfl | exact int_to (by omega) | exact sl_to (by omega)), trivial⟩, .refl _⟩
    · skip
      have hput := hS.put hk hlo (fun h h2 => h18 ⟨by omega, h2⟩)
      refine vc_exit ?_
      refine then_exit ?_
      refine loop_exit ?_
      refine in_eq ?_
      refine then_next ?_
      refine vc_seq ?_
      refine vc_seq ?_
      refine vc_region ?_
      refine vl_cut 12 32 [(0, _), (1, _), (5, _)] (k < l.length ∧ l.getD k [] = t) ⟨rfl, rfl, rfl, trivial⟩ ?_ ?_
      · skip
        refine vl_det (det_move rfl) rfl ?_
        refine vl_det (det_move rfl) rfl ?_
        refine vl_det (det_len_sl Try.underlying26 rfl) rfl ?_
        refine vl_det (det_lss rfl rfl) rfl ?_
        refine vl_det (det_move rfl) rfl ?_
        refine vl_guardp rfl rfl rfl (fun h25 => ?_) (fun h25 => ?_)
        · skip
          refine vl_det (det_move rfl) rfl ?_
          refine vl_guard_t rfl rfl ?_
          refine vl_det (det_move rfl) rfl ?_
          refine vl_guard_t rfl rfl ?_
          refine vl_det (det_indexAddr (size := 1) Try.underlying26 (by kernel_rfl) rfl rfl rfl (by omega) (by first | (exact Bor.own (by repeat (first | exact List.Mem.head _ | apply List.Mem.tail))) | (repeat (first | assumption | apply Bor.cons)))) rfl ?_
          refine vl_guard_t rfl rfl ?_
          refine vl_det (det_load_str (b := l) (j := k) (by kernel_rfl) rfl (by first | (exact Bor.own (by repeat (first | exact List.Mem.head _ | apply List.Mem.tail))) | (repeat (first | assumption | apply Bor.cons))) (by omega)) rfl ?_
          refine vl_guard_t rfl rfl ?_
          refine vl_det (det_move rfl) rfl ?_
          refine vl_guard_t rfl rfl ?_
          refine vl_det (det_s_eql rfl rfl) rfl ?_
          refine vl_det (det_pick_t rfl rfl) rfl ?_
          exact vl_cut_end ⟨rfl, rfl, rfl, trivial⟩ (by first | rfl | exact bool_to_t (by first | omega | exact ⟨fun h => ⟨by omega, h⟩, fun h => h.2⟩) | exact bool_to_f (by first | omega | exact ⟨fun h => ⟨by omega, h⟩, fun h => h.2⟩) | exact bool_to (by first | omega | exact ⟨fun h => ⟨by omega, h⟩, fun h => h.2⟩) | exact bool_to_b (by first | omega | exact ⟨fun h => ⟨by omega, h⟩, fun h => h.2⟩))
        · skip
          refine vl_guard_f rfl rfl rfl rfl ?_
          refine vl_guard_f rfl rfl rfl rfl ?_
          refine vl_guard_f rfl rfl rfl rfl ?_
          refine vl_guard_f rfl rfl rfl rfl ?_
          refine vl_guard_f rfl rfl rfl rfl ?_
          refine vl_det (det_pick_f rfl rfl) rfl ?_
          exact vl_cut_end ⟨rfl, rfl, rfl, trivial⟩ (by first | rfl | exact bool_to_t (by first | omega | exact ⟨fun h => ⟨by omega, h⟩, fun h => h.2⟩) | exact bool_to_f (by first | omega | exact ⟨fun h => ⟨by omega, h⟩, fun h => h.2⟩) | exact bool_to (by first | omega | exact ⟨fun h => ⟨by omega, h⟩, fun h => h.2⟩) | exact bool_to_b (by first | omega | exact ⟨fun h => ⟨by omega, h⟩, fun h => h.2⟩))
      · skip
        refine vl_end [(0, _), (1, _), (5, _), (32, _)] ⟨rfl, rfl, rfl, rfl, trivial⟩ ?_
        refine then_next ?_
        refine vc_decideU rfl (fun h32 => ?_) (fun h32 => ?_)
        · skip
          rw [if_pos h32] at hput
          refine vc_seq ?_
          refine vc_region ?_
          refine vl_det (det_move rfl) rfl ?_
          refine vl_det (det_assign rfl) rfl ?_
          refine vl_end [(4, _)] ⟨rfl, trivial⟩ ?_
          refine then_next ?_
          refine vc_ret ?_
          refine then_ret ?_
          refine ret1 rfl rfl ?_
          exact ⟨A, c, by rw [hput], by rw [hput]⟩
        · skip
          rw [if_neg h32] at hput
          refine vc_bor (A := A) (nn := l.length) (c := c) (size := 1) (xs := strs l) (by first | (exact Bor.own (by repeat (first | exact List.Mem.head _ | apply List.Mem.tail))) | (repeat (first | assumption | apply Bor.cons))) fun hcap _ => ?_
          have hb0 : Bor B w0 (.own 9 1 A l.length c (strs l) :: F) 1 (.slice A l.length c) l.length (strs l) := Bor.own (List.Mem.head _)
          have hcut := hb0.cut hk
          have hhd := hb0.head_ hk
          rw [show (strs l).take (k * 1) = strs (l.take k) by rw [Nat.mul_one]; simp [strs]] at hhd
          rw [show (strs l).drop (k * 1) = strs (l.drop k) by rw [Nat.mul_one]; simp [strs]] at hcut
          obtain ⟨A9, hA9⟩ : ∃ A9, A9 = (if c = k then A else A.map (·.add (k * 1))) := ⟨_, rfl⟩
          obtain ⟨c9, hc9⟩ : ∃ c9, c9 = c - k := ⟨_, rfl⟩
          rw [← hA9, ← hc9] at hcut
          refine vc_skip ?_
          refine then_next ?_
          refine vc_seq ?_
          refine vc_nil_row 9 1 none ?_
          refine vc_region ?_
          refine vl_det (det_assign rfl) rfl ?_
          refine vl_end [(0, _), (1, _), (5, _), (6, _)] ⟨rfl, rfl, rfl, rfl, trivial⟩ ?_
          refine then_next ?_
          refine vc_seq ?_
          refine vc_region ?_
          refine vl_det (det_move rfl) rfl ?_
          refine vl_det (det_move rfl) rfl ?_
          refine vl_det (det_move rfl) rfl ?_
          refine vl_det (det_slice_hi (i := k) (size := 1) Try.underlying26 (by kernel_rfl) rfl rfl rfl (by omega)) rfl ?_
          refine vl_eff (eff_app slT26 rfl (by repeat (first | exact .hd | apply Sel.tl)) rfl (by first | (exact Bor.own (by repeat (first | exact List.Mem.head _ | apply List.Mem.tail))) | (repeat (first | assumption | apply Bor.cons))) (by first | exact bv_one _ | exact strs_one _ | exact ints_one _ _ | (simp; done) | (simp [Value.oneCell']; done) | assumption) (by omega) (by omega)) rfl ?_
          rintro _ _ ⟨A38, c38, rfl, rfl⟩
          refine vl_det (det_assign rfl) rfl ?_
          refine vl_end [(0, _), (1, _), (5, _), (6, _)] ⟨rfl, rfl, rfl, rfl, trivial⟩ ?_
          refine then_next ?_
          refine vc_seq ?_
          refine vc_region ?_
          refine vl_det (det_move rfl) rfl ?_
          refine vl_det (det_move rfl) rfl ?_
          refine vl_push slT26 rfl rfl rfl rfl rfl (fun _ => rfl) (by repeat (first | exact .hd | apply Sel.tl)) (by omega) (by omega) ?_
          intro _ A42 c42
          refine vl_det (det_assign rfl) rfl ?_
          refine vl_end [(0, _), (5, _), (6, _)] ⟨rfl, rfl, rfl, trivial⟩ ?_
          refine then_next ?_
          refine vc_seq ?_
          refine vc_region ?_
          refine vl_det (det_move rfl) rfl ?_
          refine vl_det (det_move rfl) rfl ?_
          refine vl_det (det_move rfl) rfl ?_
          refine vl_det (det_slice_lo (i := k) (size := 1) Try.underlying26 (by kernel_rfl) rfl rfl rfl hk) rfl ?_
          rw [← hA9, ← hc9]
          refine vl_eff (eff_app slT26 rfl (by repeat (first | exact .hd | apply Sel.tl)) rfl (by first | (exact Bor.own (by repeat (first | exact List.Mem.head _ | apply List.Mem.tail))) | (repeat (first | assumption | apply Bor.cons))) (by first | exact bv_one _ | exact strs_one _ | exact ints_one _ _ | (simp; done) | (simp [Value.oneCell']; done) | assumption) (by omega) (by omega)) rfl ?_
          rintro _ _ ⟨A47, c47, rfl, rfl⟩
          refine vl_det (det_assign rfl) rfl ?_
          refine vl_end [(4, _)] ⟨rfl, trivial⟩ ?_
          refine then_next ?_
          refine vc_ret ?_
          have hel : 0 + k + 1 + (l.length - k) = (putL l t).length := by rw [hput]; simp; omega
          rw [hel]
          refine ret_wk (L' := .own 9 1 A47 (putL l t).length c47 (strs (putL l t)) :: F) (wk_own rfl (by rw [hput]; simp [strs]) (.skip (.refl _))) ?_
          refine ret1 rfl rfl ?_
          exact ⟨A47, c47, rfl, rfl⟩
theorem putL_set (o : List Txt) (x : Txt) : putL (setT o) x = setT (o ++ [x]) := setT_uniq (setT_st _) fun y => by simp [setT_mem]
theorem word_le24 {l : List UInt8} (k : Nat) : ((wordsL l).getD k []).length ≤ 24 := by
  by_cases h : k < (wordsL l).length
  · exact (word_ok (getD_mem h [])).2.1
  · simp [List.getD, List.getElem?_eq_none (Nat.le_of_not_lt h)]
theorem rterms_d {a b : Value} (txt src : List UInt8) (h1 : txt.length ≤ 100000000000) (h2 : src.length ≤ 100000000000) :
    Does Try.prog B w0 31 [.agg #[a, b, .string ⟨src.toArray⟩, .string ⟨txt.toArray⟩]] F (fun r L => ∃ A c, r = .slice A (termsL txt src).length c ∧ L = .own 9 1 A (termsL txt src).length c (strs (termsL txt src)) :: F) := by
  have hw1 := wordsL_len txt
  have hw2 := wordsL_len src
  have hs0 : setT [] = [] := setT_uniq StT.nil (by simp)
  refine fn_walk Try.func31 39 rfl rfl rfl [(0, .agg #[a, b, .string ⟨src.toArray⟩, .string ⟨txt.toArray⟩])] ⟨⟨rfl, rfl⟩, trivial⟩ ?_
  refine vc_seq ?_
  refine vc_region ?_
  refine vl_eff (eff_box rfl rfl) rfl ?_
  rintro _ _ ⟨g1, rfl, rfl⟩
  refine vl_det (det_assign rfl) rfl ?_
  refine vl_end [(1, _)] ⟨rfl, trivial⟩ ?_
  refine then_next ?_
  refine vc_seq ?_
  refine vc_region ?_
  refine vl_det (det_assign rfl) rfl ?_
  refine vl_end [(1, _), (3, _)] ⟨rfl, rfl, trivial⟩ ?_
  refine then_next ?_
  refine vc_seq ?_
  refine vc_region ?_
  refine vl_det (det_fieldAddr_ Try.underlying35 rfl (by kernel_rfl) rfl rfl) rfl ?_
  refine vl_det (det_load_blk (by kernel_rfl) rfl (by repeat (first | exact .hd | apply Sel.tl)) rfl) rfl ?_
  refine vl_call co56 rfl (rwords_d txt (by omega)) rfl ?_
  rintro _ _ ⟨A9, c9, rfl, hLL⟩
  obtain rfl := hLL.symm
  refine vl_det (det_assign rfl) rfl ?_
  refine vl_end [(1, _), (3, _), (4, _)] ⟨rfl, rfl, rfl, trivial⟩ ?_
  refine then_next ?_
  refine vc_seq ?_
  refine vc_seq ?_
  refine vc_nil_row 9 1 none ?_
  refine vc_region ?_
  refine vl_det (det_assign rfl) rfl ?_
  refine vl_end [(1, _), (3, _), (4, _), (5, _)] ⟨rfl, rfl, rfl, rfl, trivial⟩ ?_
  refine then_next ?_
  refine vc_block ?_
  refine vc_loopJ (fun zf zL zm => ∃ (k : Nat) (o : List Txt) (A3 : Option Addr) (c3 : Nat), (k ≤ (wordsL txt).length ∧ o = setT ((wordsL txt).take k)) ∧ (wordsL txt).length - k = zm ∧ Sub zf [(1, .pointer (some ⟨g1, 0, none⟩)), (3, .slice A3 o.length c3), (4, .slice A9 (wordsL txt).length c9), (5, .int .i64 k)] ∧ Wk zL (.own 9 1 A3 o.length c3 (strs o) :: .own 9 1 A9 (wordsL txt).length c9 (strs (wordsL txt)) :: .blk g1 35 [a, b, .string ⟨src.toArray⟩, .string ⟨txt.toArray⟩] :: F)) _ ⟨0, [], none, 0, ⟨Nat.zero_le _, by rw [List.take_zero, hs0]⟩, rfl, ⟨(by first | rfl | exact int_to (by omega) | exact sl_to (by omega)), (by first | rfl | exact int_to (by omega) | exact sl_to (by omega)), (by first | rfl | exact int_to (by omega) | exact sl_to (by omega)), (by first | rfl | exact int_to (by omega) | exact sl_to (by omega)), trivial⟩, .refl _⟩ ?_
  rintro _ _ _ ⟨k, o, A3, c3, ⟨hk, ho⟩, rfl, hs, hp⟩
  refine vc_weaken _ hs (vc_wk hp ?_)
  clear hs hp
  refine vc_seq ?_
  refine vc_seq ?_
  refine vc_region ?_
  refine vl_det (det_move rfl) rfl ?_
  refine vl_det (det_move rfl) rfl ?_
  refine vl_det (det_len_sl Try.underlying26 rfl) rfl ?_
  refine vl_det (det_lss rfl rfl) rfl ?_
  refine vl_end [(1, _), (3, _), (4, _), (5, _), (13, _)] ⟨rfl, rfl, rfl, rfl, rfl, trivial⟩ ?_
  refine then_next ?_
  refine vc_decideU rfl (fun h13 => ?_) (fun h13 => ?_)
  · skip
    have hsl := setT_len ((wordsL txt).take k)
    rw [List.length_take, ← ho] at hsl
    have htk : (wordsL txt).take (k + 1) = (wordsL txt).take k ++ [(wordsL txt).getD k []] := by rw [List.take_add_one, List.getElem?_eq_getElem (show k < (wordsL txt).length by omega)]; simp [List.getD, List.getElem?_eq_getElem (show k < (wordsL txt).length by omega)]
    have hoS : StT o := ho ▸ setT_st _
    refine vc_skip ?_
    refine then_next ?_
    refine vc_seq ?_
    refine vc_block ?_
    refine vc_region ?_
    refine vl_det (det_move rfl) rfl ?_
    refine vl_det (det_move rfl) rfl ?_
    refine vl_det (det_move rfl) rfl ?_
    refine vl_det (det_indexAddr (size := 1) Try.underlying26 (by kernel_rfl) rfl rfl rfl (by omega) (by first | (exact Bor.own (by repeat (first | exact List.Mem.head _ | apply List.Mem.tail))) | (repeat (first | assumption | apply Bor.cons)))) rfl ?_
    refine vl_det (det_load_str (b := wordsL txt) (j := k) (by kernel_rfl) rfl (by first | (exact Bor.own (by repeat (first | exact List.Mem.head _ | apply List.Mem.tail))) | (repeat (first | assumption | apply Bor.cons))) (by omega)) rfl ?_
    refine vl_call co32 rfl (rput_d hoS (by omega) ((wordsL txt).getD k [])) rfl ?_
    rintro _ _ ⟨A21, c21, rfl, hLL⟩
    obtain rfl := hLL.symm
    refine vl_det (det_assign rfl) rfl ?_
    refine vl_end [(1, _), (3, _), (4, _), (5, _)] ⟨rfl, rfl, rfl, rfl, trivial⟩ ?_
    refine in_normal ?_
    refine then_next ?_
    refine vc_region ?_
    refine vl_det (det_move rfl) rfl ?_
    refine vl_det (det_add rfl rfl (w_i64 (by omega) (by omega))) rfl ?_
    refine vl_det (det_assign rfl) rfl ?_
    refine vl_end [(1, _), (3, _), (4, _), (5, _)] ⟨rfl, rfl, rfl, rfl, trivial⟩ ?_
    refine in_loop_ ⟨_, by omega, k + 1, putL o ((wordsL txt).getD k []), A21, c21, ⟨by omega, by rw [ho, putL_set, ← htk]⟩, rfl, ⟨(by first | rfl | exact int_to (by omega) | exact sl_to (by omega)), (by first | rfl | exact int_to (by omega) | exact sl_to (by omega)), (by first | rfl | exact int_to (by omega) | exact sl_to (by omega)), (by first | rfl | exact int_to (by omega) | exact sl_to (by omega)), trivial⟩, .cons (.refl _)⟩
  · skip
    obtain rfl : k = (wordsL txt).length := by omega
    rw [List.take_length] at ho
    refine vc_exit ?_
    refine then_exit ?_
    refine loop_exit ?_
    refine in_eq ?_
    refine then_next ?_
    refine vc_seq ?_
    refine vc_region ?_
    refine vl_det (det_fieldAddr_ Try.underlying35 rfl (by kernel_rfl) rfl rfl) rfl ?_
    refine vl_det (det_load_blk (by kernel_rfl) rfl (by repeat (first | exact .hd | apply Sel.tl)) rfl) rfl ?_
    refine vl_call co56 rfl (rwords_d src (by omega)) rfl ?_
    rintro _ _ ⟨A24, c24, rfl, hLL⟩
    obtain rfl := hLL.symm
    refine vl_det (det_assign rfl) rfl ?_
    refine vl_end [(3, _), (4, _)] ⟨rfl, rfl, trivial⟩ ?_
    refine then_next ?_
    refine vc_seq ?_
    refine vc_seq ?_
    refine vc_region ?_
    refine vl_det (det_assign rfl) rfl ?_
    refine vl_end [(3, _), (4, _), (6, _)] ⟨rfl, rfl, rfl, trivial⟩ ?_
    refine then_next ?_
    refine vc_block ?_
    refine vc_loopJ (fun zf zL zm => ∃ (k : Nat) (o2 : List Txt) (A5 : Option Addr) (c5 : Nat), (k ≤ (wordsL src).length ∧ o2 = setT (wordsL txt ++ ((wordsL src).take k).map (64 :: ·))) ∧ (wordsL src).length - k = zm ∧ Sub zf [(3, .slice A5 o2.length c5), (4, .slice A24 (wordsL src).length c24), (6, .int .i64 k)] ∧ Wk zL (.own 9 1 A5 o2.length c5 (strs o2) :: .own 9 1 A24 (wordsL src).length c24 (strs (wordsL src)) :: F)) _ ⟨0, o, A3, c3, ⟨Nat.zero_le _, by rw [ho]; simp⟩, rfl, ⟨(by first | rfl | exact int_to (by omega) | exact sl_to (by omega)), (by first | rfl | exact int_to (by omega) | exact sl_to (by omega)), (by first | rfl | exact int_to (by omega) | exact sl_to (by omega)), trivial⟩, .swap (.cons (.cons (.skip (.skip (.refl _)))))⟩ ?_
    rintro _ _ _ ⟨k, o2, A5, c5, ⟨hk2, ho2⟩, rfl, hs, hp⟩
    refine vc_weaken _ hs (vc_wk hp ?_)
    clear hs hp
    refine vc_seq ?_
    refine vc_seq ?_
    refine vc_region ?_
    refine vl_det (det_move rfl) rfl ?_
    refine vl_det (det_move rfl) rfl ?_
    refine vl_det (det_len_sl Try.underlying26 rfl) rfl ?_
    refine vl_det (det_lss rfl rfl) rfl ?_
    refine vl_end [(3, _), (4, _), (6, _), (28, _)] ⟨rfl, rfl, rfl, rfl, trivial⟩ ?_
    refine then_next ?_
    refine vc_decideU rfl (fun h28 => ?_) (fun h28 => ?_)
    · skip
      have hsl := setT_len (wordsL txt ++ ((wordsL src).take k).map (64 :: ·))
      rw [List.length_append, List.length_map, List.length_take, ← ho2] at hsl
      have htk : wordsL txt ++ ((wordsL src).take (k + 1)).map (64 :: ·) = wordsL txt ++ ((wordsL src).take k).map (64 :: ·) ++ [64 :: (wordsL src).getD k []] := by
        have hlt : k < (wordsL src).length := by omega
        have hgd : (wordsL src).getD k [] = (wordsL src)[k] := by simp [List.getD, List.getElem?_eq_getElem hlt]
        rw [List.take_add_one, List.getElem?_eq_getElem hlt, hgd, Option.toList_some, List.map_append, List.map_singleton, List.append_assoc]
      have hoS : StT o2 := ho2 ▸ setT_st _
      refine vc_skip ?_
      refine then_next ?_
      refine vc_seq ?_
      refine vc_block ?_
      refine vc_region ?_
      refine vl_det (det_move rfl) rfl ?_
      refine vl_det (det_move rfl) rfl ?_
      refine vl_det (det_move rfl) rfl ?_
      refine vl_det (det_indexAddr (size := 1) Try.underlying26 (by kernel_rfl) rfl rfl rfl (by omega) (by first | (exact Bor.own (by repeat (first | exact List.Mem.head _ | apply List.Mem.tail))) | (repeat (first | assumption | apply Bor.cons)))) rfl ?_
      refine vl_det (det_load_str (b := wordsL src) (j := k) (by kernel_rfl) rfl (by first | (exact Bor.own (by repeat (first | exact List.Mem.head _ | apply List.Mem.tail))) | (repeat (first | assumption | apply Bor.cons))) (by omega)) rfl ?_
      refine vl_det (det_s_add (s := [64]) (r := (wordsL src).getD k []) rfl rfl (by have := word_le24 (l := src) k; simp only [List.length_cons, List.length_nil]; omega)) rfl ?_
      refine vl_call co32 rfl (rput_d hoS (by omega) (64 :: (wordsL src).getD k [])) rfl ?_
      rintro _ _ ⟨A37, c37, rfl, hLL⟩
      obtain rfl := hLL.symm
      refine vl_det (det_assign rfl) rfl ?_
      refine vl_end [(3, _), (4, _), (6, _)] ⟨rfl, rfl, rfl, trivial⟩ ?_
      refine in_normal ?_
      refine then_next ?_
      refine vc_region ?_
      refine vl_det (det_move rfl) rfl ?_
      refine vl_det (det_add rfl rfl (w_i64 (by omega) (by omega))) rfl ?_
      refine vl_det (det_assign rfl) rfl ?_
      refine vl_end [(3, _), (4, _), (6, _)] ⟨rfl, rfl, rfl, trivial⟩ ?_
      refine in_loop_ ⟨_, by omega, k + 1, putL o2 (64 :: (wordsL src).getD k []), A37, c37, ⟨by omega, by rw [ho2, putL_set, ← htk]⟩, rfl, ⟨(by first | rfl | exact int_to (by omega) | exact sl_to (by omega)), (by first | rfl | exact int_to (by omega) | exact sl_to (by omega)), (by first | rfl | exact int_to (by omega) | exact sl_to (by omega)), trivial⟩, .cons (.refl _)⟩
    · skip
      obtain rfl : k = (wordsL src).length := by omega
      rw [List.take_length] at ho2
      obtain rfl : o2 = termsL txt src := ho2
      refine vc_exit ?_
      refine then_exit ?_
      refine loop_exit ?_
      refine in_eq ?_
      refine then_next ?_
      refine vc_seq ?_
      refine vc_region ?_
      refine vl_det (det_move rfl) rfl ?_
      refine vl_det (det_assign rfl) rfl ?_
      refine vl_end [(2, _)] ⟨rfl, trivial⟩ ?_
      refine then_next ?_
      refine vc_ret ?_
      refine ret_wk (L' := .own 9 1 A5 (termsL txt src).length c5 (strs (termsL txt src)) :: F) (.cons (.skip (.refl _))) ?_
      refine ret1 rfl rfl ?_
      exact ⟨A5, c5, rfl, rfl⟩
end Go.Proofs.Ytpamjobiohbibaa
