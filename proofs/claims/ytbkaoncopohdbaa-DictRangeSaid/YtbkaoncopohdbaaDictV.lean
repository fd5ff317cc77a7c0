/-
  dict.Write at any size, the chapter's example, dictionaries that are nil. Condition: texts to 10^15.
-/
import Derived.Test.YtbkaoncopohdbaaDictW
import Derived.Test.YtbkaoncopohdbaaSameD
import Derived.Test.YtbkaoncopohdbaaEngL
namespace Go.Proofs.Ytbkaoncopohdbaa
open Go.RowKit
set_option linter.unusedVariables false
set_option maxRecDepth 20000
variable {B : Nat} {w0 : World} {F : List Ch} {A A1 A2 : Option Addr} {n c c1 c2 g : Nat}
theorem dwrite_d {size : Int} {l : List Txt} (hb : Bor B w0 F 1 (.slice A l.length c) l.length (strs l)) (hlc : l.length ≤ c) (hl : l.length ≤ 1000000000000000) :
    Does Try.prog B w0 11 [.int .i64 size, .slice A l.length c] F (fun r L => ∃ A' c', r = .tuple #[.slice A' (dictW size l).1.length c', .int .i64 (dictW size l).2] ∧ L = .own 5 1 A' (dictW size l).1.length c' (bv (dictW size l).1) :: F) := by
  by_cases hE : size < 1 ∨ 64 < size ∨ ¬ RisT l
  · rw [dictW_bad hE]; exact dwrite_bad hb hl hE
  · have hR : RisT l := Classical.byContradiction fun h => hE (.inr (.inr h))
    obtain ⟨sz, rfl⟩ := Int.eq_ofNat_of_zero_le (show 0 ≤ size by omega)
    rw [dictW_ok hE]
    exact dwrite_ok hb hlc (by omega) (by omega) hR
theorem dictX : dictB 2 [[100, 105, 115, 107], [100, 105, 115, 107, 115], [102, 117, 108, 108]] = [3, 8, 5, 4, 100, 105, 115, 107, 4, 1, 115, 4, 102, 117, 108, 108] := by
  have e3 := encN_lt (x := 3) (by omega)
  have e4 := encN_lt (x := 4) (by omega)
  have e1 := encN_lt (x := 1) (by omega)
  have e8 := encN_lt (x := 8) (by omega)
  have e5 := encN_lt (x := 5) (by omega)
  have hN : List.range (chN 2 3) = [0, 1] := by decide
  have h0 : ck [[100, 105, 115, 107], [100, 105, 115, 107, 115], [102, 117, 108, 108]] 2 0 = [[100, 105, 115, 107], [100, 105, 115, 107, 115]] := rfl
  have h1 : ck [[100, 105, 115, 107], [100, 105, 115, 107, 115], [102, 117, 108, 108]] 2 1 = [[102, 117, 108, 108]] := rfl
  have hl : lcp [100, 105, 115, 107] [100, 105, 115, 107, 115] = 4 := by decide
  have b0 : bucketT [[100, 105, 115, 107], [100, 105, 115, 107, 115]] = [4, 100, 105, 115, 107, 4, 1, 115] := by
    simp only [bucketT, tailT, hl, encT, List.length_cons, List.length_nil, List.drop, Nat.zero_add, Nat.reduceAdd, e4, e1]
    rfl
  have b1 : bucketT [[102, 117, 108, 108]] = [4, 102, 117, 108, 108] := by
    simp only [bucketT, tailT, encT, List.length_cons, List.length_nil, Nat.zero_add, Nat.reduceAdd, e4]
    rfl
  unfold dictB headT bodyT
  simp only [List.length_cons, List.length_nil, Nat.zero_add, Nat.reduceAdd, hN, List.flatMap_cons, List.flatMap_nil, h0, h1, b0, b1, e3, e8, e5]
  rfl
theorem alive_d : Does Try.prog B w0 9 [] F (fun r L => r = .bool true ∧ L = F) := by
  refine fn_walk Try.func9 16 rfl rfl rfl [] trivial ?_
  refine vc_seq ?_
  refine vc_region ?_
  refine vl_det (det_assign rfl) rfl ?_
  refine vl_end [] trivial ?_
  refine then_next ?_
  refine vc_seq ?_
  refine vc_region ?_
  refine vl_eff (eff_build_lit slT22 [_, _, _] rfl rfl (by first | exact bv_one _ | exact strs_one _ | exact ints_one _ _ | (simp; done) | (simp [Value.oneCell']; done) | assumption) (by omega) (by omega)) rfl ?_
  rintro _ _ ⟨A4, rfl, rfl⟩
  refine vl_call co11 rfl (dwrite_ok (sz := 2) (l := [[100, 105, 115, 107], [100, 105, 115, 107, 115], [102, 117, 108, 108]]) (by first | (exact Bor.own (by repeat (first | exact List.Mem.head _ | apply List.Mem.tail))) | (repeat (first | assumption | apply Bor.cons))) (by simp) (by omega) (by omega) (by decide)) rfl ?_
  rintro _ _ ⟨A5, c5, rfl, hLL⟩
  obtain rfl := hLL.symm
  refine vl_det (det_move rfl) rfl ?_
  refine vl_det (det_extract rfl rfl) rfl ?_
  refine vl_det (det_extract rfl rfl) rfl ?_
  refine vl_det (det_assign rfl) rfl ?_
  refine vl_det (det_assign rfl) rfl ?_
  refine vl_end [(1, _), (2, _)] ⟨rfl, rfl, trivial⟩ ?_
  refine then_next ?_
  refine vc_seq ?_
  refine vc_region ?_
  refine vl_det (det_move rfl) rfl ?_
  refine vl_det (det_eql rfl rfl) rfl ?_
  refine vl_det (det_move rfl) rfl ?_
  refine vl_guardp rfl rfl rfl (fun h10 => ?_) (fun h10 => ?_)
  · skip
    refine vl_det (det_move rfl) rfl ?_
    refine vl_guard_t rfl rfl ?_
    refine vl_eff (eff_build_lit slT25 [_, _, _, _, _, _, _, _, _, _, _, _, _, _, _, _] rfl rfl (by first | exact bv_one _ | exact strs_one _ | exact ints_one _ _ | (simp; done) | (simp [Value.oneCell']; done) | assumption) (by omega) (by omega)) rfl ?_
    rintro _ _ ⟨A12, rfl, rfl⟩
    refine vl_guard_t rfl rfl ?_
    refine vl_eff (eff_conv_own Try.underlying25 Try.underlying5 rfl (by repeat (first | exact .hd | apply Sel.tl)) (by omega)) rfl ?_
    rintro _ _ ⟨g9, cur, kk, rfl, hA9, hnc9, hcur, hcl, rfl⟩
    subst hA9
    refine vl_guard_t rfl rfl ?_
    refine vl_call co13 rfl (same_d (l := dictB 2 [[100, 105, 115, 107], [100, 105, 115, 107, 115], [102, 117, 108, 108]]) (l2 := [3, 8, 5, 4, 100, 105, 115, 107, 4, 1, 115, 4, 102, 117, 108, 108]) (by first | (exact Bor.own (by repeat (first | exact List.Mem.head _ | apply List.Mem.tail))) | (repeat (first | assumption | apply Bor.cons))) (Bor.obj (List.Mem.head _) hnc9 hcur hcl)) rfl ?_
    rintro _ _ ⟨rfl, hLL⟩
    obtain rfl := hLL.symm
    refine vl_det (det_pick_t rfl rfl) rfl ?_
    refine vl_det (det_assign rfl) rfl ?_
    refine vl_end [(0, _)] ⟨rfl, trivial⟩ ?_
    refine then_next ?_
    refine vc_ret ?_
    refine ret_wk (L' := F) (.skip (.skip (.skip (.refl _)))) ?_
    refine ret1 rfl rfl ?_
    exact ⟨by rw [decide_eq_true dictX], rfl⟩
  · skip
    exfalso; exact h10 rfl
/-! nil dictionaries -/
theorem nlen_d : Does Try.prog B w0 17 [.pointer none] F (fun r L => r = .int .i64 0 ∧ L = F) := by
  refine fn_walk Try.func17 11 rfl rfl rfl [(0, .pointer none)] ⟨⟨rfl, rfl⟩, trivial⟩ ?_
  refine vc_seq ?_
  refine vc_region ?_
  refine vl_det (det_assign rfl) rfl ?_
  refine vl_end [(0, _)] ⟨rfl, trivial⟩ ?_
  refine then_next ?_
  refine vc_seq ?_
  refine vc_seq ?_
  refine vc_region ?_
  refine vl_det (det_move rfl) rfl ?_
  refine vl_det (det_ptr_nil Try.underlying32 rfl rfl) rfl ?_
  refine vl_end [(0, _), (4, _)] ⟨rfl, rfl, trivial⟩ ?_
  refine then_next ?_
  refine vc_cond_t rfl ?_
  refine vc_seq ?_
  refine vc_region ?_
  refine vl_det (det_assign rfl) rfl ?_
  refine vl_end [(2, _)] ⟨rfl, trivial⟩ ?_
  refine then_next ?_
  refine vc_ret ?_
  refine then_ret ?_
  refine ret1 rfl rfl ?_
  exact ⟨rfl, rfl⟩
theorem nat_d (i : Int) : Does Try.prog B w0 14 [.pointer none, .int .i64 i] F (fun r L => r = .tuple #[.string ⟨([] : Txt).toArray⟩, .bool false] ∧ L = F) := by
  refine fn_walk Try.func14 22 rfl rfl rfl [(0, .pointer none), (1, .int .i64 i)] ⟨⟨rfl, rfl⟩, ⟨rfl, rfl⟩, trivial⟩ ?_
  refine vc_seq ?_
  refine vc_region ?_
  refine vl_det (det_assign rfl) rfl ?_
  refine vl_det (det_assign rfl) rfl ?_
  refine vl_end [(0, _), (1, _)] ⟨rfl, rfl, trivial⟩ ?_
  refine then_next ?_
  refine vc_seq ?_
  refine vc_seq ?_
  refine vc_region ?_
  refine vl_det (det_move rfl) rfl ?_
  refine vl_det (det_lss rfl rfl) rfl ?_
  refine vl_det (det_move rfl) rfl ?_
  refine vl_guardn rfl rfl rfl (fun h8 => ?_) (fun h8 => ?_)
  · skip
    refine vl_det (det_move rfl) rfl ?_
    refine vl_guard_t rfl rfl ?_
    refine vl_det (det_move rfl) rfl ?_
    refine vl_guard_t rfl rfl ?_
    refine vl_call co17 rfl (nlen_d) rfl ?_
    rintro _ _ ⟨rfl, hLL⟩
    obtain rfl := hLL.symm
    refine vl_guard_t rfl rfl ?_
    refine vl_det (det_geq rfl rfl) rfl ?_
    refine vl_det (det_pick_f rfl rfl) rfl ?_
    refine vl_end [(0, _), (1, _), (13, _)] ⟨rfl, rfl, rfl, trivial⟩ ?_
    refine then_next ?_
    refine vc_decideU rfl (fun h13 => ?_) (fun h13 => ?_)
    · skip
      refine vc_seq ?_
      refine vc_region ?_
      refine vl_det (det_assign rfl) rfl ?_
      refine vl_det (det_assign rfl) rfl ?_
      refine vl_end [(4, _), (5, _)] ⟨rfl, rfl, trivial⟩ ?_
      refine then_next ?_
      refine vc_ret ?_
      refine then_ret ?_
      refine ret2 rfl rfl rfl ?_
      exact ⟨rfl, rfl⟩
    · skip
      exfalso; omega
  · skip
    refine vl_guard_f rfl rfl rfl rfl ?_
    refine vl_guard_f rfl rfl rfl rfl ?_
    refine vl_guard_f rfl rfl rfl rfl ?_
    refine vl_det (det_pick_t rfl rfl) rfl ?_
    refine vl_end [(0, _), (1, _), (13, _)] ⟨rfl, rfl, rfl, trivial⟩ ?_
    refine then_next ?_
    refine vc_cond_t rfl ?_
    refine vc_seq ?_
    refine vc_region ?_
    refine vl_det (det_assign rfl) rfl ?_
    refine vl_det (det_assign rfl) rfl ?_
    refine vl_end [(4, _), (5, _)] ⟨rfl, rfl, trivial⟩ ?_
    refine then_next ?_
    refine vc_ret ?_
    refine then_ret ?_
    refine ret2 rfl rfl rfl ?_
    exact ⟨rfl, rfl⟩
theorem nplace_d (s : Txt) : Does Try.prog B w0 33 [.pointer none, .string ⟨s.toArray⟩] F (fun r L => r = .int .i64 0 ∧ L = F) := by
  refine fn_walk Try.func33 53 rfl rfl rfl [(0, .pointer none), (1, .string ⟨s.toArray⟩)] ⟨⟨rfl, rfl⟩, ⟨rfl, rfl⟩, trivial⟩ ?_
  refine vc_seq ?_
  refine vc_region ?_
  refine vl_eff (eff_box rfl rfl) rfl ?_
  rintro _ _ ⟨g2, rfl, rfl⟩
  refine vl_eff (eff_box rfl rfl) rfl ?_
  rintro _ _ ⟨g3, rfl, rfl⟩
  refine vl_det (det_assign rfl) rfl ?_
  refine vl_end [(2, _), (3, _)] ⟨rfl, rfl, trivial⟩ ?_
  refine then_next ?_
  refine vc_seq ?_
  refine vc_seq ?_
  refine vc_region ?_
  refine vl_det (det_load_blk (by kernel_rfl) rfl (by repeat (first | exact .hd | apply Sel.tl)) rfl) rfl ?_
  refine vl_call co17 rfl (nlen_d) rfl ?_
  rintro _ _ ⟨rfl, hLL⟩
  obtain rfl := hLL.symm
  refine vl_det (det_eql rfl rfl) rfl ?_
  refine vl_end [(2, _), (3, _), (10, _)] ⟨rfl, rfl, rfl, trivial⟩ ?_
  refine then_next ?_
  refine vc_decideU rfl (fun h10 => ?_) (fun h10 => ?_)
  · skip
    refine vc_seq ?_
    refine vc_region ?_
    refine vl_det (det_assign rfl) rfl ?_
    refine vl_end [(4, _)] ⟨rfl, trivial⟩ ?_
    refine then_next ?_
    refine vc_ret ?_
    refine then_ret ?_
    refine ret_wk (L' := F) (.skip (.skip (.refl _))) ?_
    refine ret1 rfl rfl ?_
    exact ⟨rfl, rfl⟩
  · skip
    exfalso; exact h10 rfl
theorem nfind_d (s : Txt) : Does Try.prog B w0 15 [.pointer none, .string ⟨s.toArray⟩] F (fun r L => r = .tuple #[.int .i64 0, .bool false] ∧ L = F) := by
  refine fn_walk Try.func15 26 rfl rfl rfl [(0, .pointer none), (1, .string ⟨s.toArray⟩)] ⟨⟨rfl, rfl⟩, ⟨rfl, rfl⟩, trivial⟩ ?_
  refine vc_seq ?_
  refine vc_region ?_
  refine vl_det (det_assign rfl) rfl ?_
  refine vl_det (det_assign rfl) rfl ?_
  refine vl_end [(0, _), (1, _)] ⟨rfl, rfl, trivial⟩ ?_
  refine then_next ?_
  refine vc_seq ?_
  refine vc_region ?_
  refine vl_det (det_move rfl) rfl ?_
  refine vl_det (det_move rfl) rfl ?_
  refine vl_call co33 rfl (nplace_d s) rfl ?_
  rintro _ _ ⟨rfl, hLL⟩
  obtain rfl := hLL.symm
  refine vl_det (det_assign rfl) rfl ?_
  refine vl_end [(0, _), (1, _), (6, _)] ⟨rfl, rfl, rfl, trivial⟩ ?_
  refine then_next ?_
  refine vc_seq ?_
  refine vc_seq ?_
  refine vc_region ?_
  refine vl_det (det_move rfl) rfl ?_
  refine vl_det (det_move rfl) rfl ?_
  refine vl_call co14 rfl (nat_d 0) rfl ?_
  rintro _ _ ⟨rfl, hLL⟩
  obtain rfl := hLL.symm
  refine vl_det (det_move rfl) rfl ?_
  refine vl_det (det_extract rfl rfl) rfl ?_
  refine vl_det (det_extract rfl rfl) rfl ?_
  refine vl_det (det_assign rfl) rfl ?_
  refine vl_det (det_assign rfl) rfl ?_
  refine vl_end [(1, _), (6, _), (7, _), (8, _)] ⟨rfl, rfl, rfl, rfl, trivial⟩ ?_
  refine then_next ?_
  refine vc_seq ?_
  refine vc_region ?_
  refine vl_det (det_move rfl) rfl ?_
  refine vl_det (det_not_f rfl) rfl ?_
  refine vl_det (det_move rfl) rfl ?_
  refine vl_guard_f rfl rfl rfl rfl ?_
  refine vl_guard_f rfl rfl rfl rfl ?_
  refine vl_guard_f rfl rfl rfl rfl ?_
  refine vl_det (det_pick_t rfl rfl) rfl ?_
  refine vl_end [(6, _), (24, _)] ⟨rfl, rfl, trivial⟩ ?_
  refine then_next ?_
  refine vc_cond_t rfl ?_
  refine vc_seq ?_
  refine vc_region ?_
  refine vl_det (det_assign rfl) rfl ?_
  refine vl_det (det_assign rfl) rfl ?_
  refine vl_end [(4, _), (5, _)] ⟨rfl, rfl, trivial⟩ ?_
  refine then_next ?_
  refine vc_ret ?_
  refine then_ret ?_
  refine ret2 rfl rfl rfl ?_
  exact ⟨rfl, rfl⟩
theorem nrange_d (s : Txt) : Does Try.prog B w0 16 [.pointer none, .string ⟨s.toArray⟩] F (fun r L => r = .tuple #[.int .i64 0, .int .i64 0] ∧ L = F) := by
  refine fn_walk Try.func16 35 rfl rfl rfl [(0, .pointer none), (1, .string ⟨s.toArray⟩)] ⟨⟨rfl, rfl⟩, ⟨rfl, rfl⟩, trivial⟩ ?_
  refine vc_seq ?_
  refine vc_region ?_
  refine vl_det (det_assign rfl) rfl ?_
  refine vl_det (det_assign rfl) rfl ?_
  refine vl_end [(0, _), (1, _)] ⟨rfl, rfl, trivial⟩ ?_
  refine then_next ?_
  refine vc_seq ?_
  refine vc_region ?_
  refine vl_det (det_move rfl) rfl ?_
  refine vl_det (det_move rfl) rfl ?_
  refine vl_call co33 rfl (nplace_d s) rfl ?_
  rintro _ _ ⟨rfl, hLL⟩
  obtain rfl := hLL.symm
  refine vl_det (det_assign rfl) rfl ?_
  refine vl_end [(0, _), (1, _), (6, _)] ⟨rfl, rfl, rfl, trivial⟩ ?_
  refine then_next ?_
  refine vc_seq ?_
  refine vc_region ?_
  refine vl_det (det_move rfl) rfl ?_
  refine vl_det (det_assign rfl) rfl ?_
  refine vl_end [(0, _), (1, _), (6, _), (7, _)] ⟨rfl, rfl, rfl, rfl, trivial⟩ ?_
  refine then_next ?_
  refine vc_seq ?_
  refine vc_block ?_
  refine vc_loopJ (fun zf zL zm => ∃ (u : Unit), 0 = zm ∧ Sub zf [(0, .pointer none), (1, .string ⟨s.toArray⟩), (6, .int .i64 0), (7, .int .i64 0)] ∧ Wk zL (F)) _ ⟨(), rfl, ⟨(by first | rfl | exact int_to (by omega) | exact sl_to (by omega)), (by first | rfl | exact int_to (by omega) | exact sl_to (by omega)), (by first | rfl | exact int_to (by omega) | exact sl_to (by omega)), (by first | rfl | exact int_to (by omega) | exact sl_to (by omega)), trivial⟩, .refl _⟩ ?_
  rintro _ _ _ ⟨u, rfl, hs, hp⟩
  refine vc_weaken _ hs (vc_wk hp ?_)
  clear hs hp
  refine vc_seq ?_
  refine vc_seq ?_
  refine vc_region ?_
  refine vl_det (det_move rfl) rfl ?_
  refine vl_det (det_move rfl) rfl ?_
  refine vl_call co17 rfl (nlen_d) rfl ?_
  rintro _ _ ⟨rfl, hLL⟩
  obtain rfl := hLL.symm
  refine vl_det (det_lss rfl rfl) rfl ?_
  refine vl_det (det_move rfl) rfl ?_
  refine vl_guardp rfl rfl rfl (fun h16 => ?_) (fun h16 => ?_)
  · skip
    exfalso; exact absurd h16 (by decide)
  · skip
    refine vl_guard_f rfl rfl rfl rfl ?_
    refine vl_guard_f rfl rfl rfl rfl ?_
    refine vl_guard_f rfl rfl rfl rfl ?_
    refine vl_guard_f rfl rfl rfl rfl ?_
    refine vl_guard_f rfl rfl rfl rfl ?_
    refine vl_guard_f rfl rfl rfl rfl ?_
    refine vl_guard_f rfl rfl rfl rfl ?_
    refine vl_guard_f rfl rfl rfl rfl ?_
    refine vl_guard_f rfl rfl rfl rfl ?_
    refine vl_det (det_pick_f rfl rfl) rfl ?_
    refine vl_end [(0, _), (1, _), (6, _), (7, _), (27, _)] ⟨rfl, rfl, rfl, rfl, rfl, trivial⟩ ?_
    refine then_next ?_
    refine vc_cond_f rfl ?_
    refine vc_exit ?_
    refine then_exit ?_
    refine loop_exit ?_
    refine in_eq ?_
    refine then_next ?_
    refine vc_seq ?_
    refine vc_seq ?_
    refine vc_region ?_
    refine vl_det (det_move rfl) rfl ?_
    refine vl_det (det_move rfl) rfl ?_
    refine vl_det (det_eql rfl rfl) rfl ?_
    refine vl_end [(6, _), (7, _), (32, _)] ⟨rfl, rfl, rfl, trivial⟩ ?_
    refine then_next ?_
    refine vc_decideU rfl (fun h32 => ?_) (fun h32 => ?_)
    · skip
      refine vc_seq ?_
      refine vc_region ?_
      refine vl_det (det_assign rfl) rfl ?_
      refine vl_det (det_assign rfl) rfl ?_
      refine vl_end [(4, _), (5, _)] ⟨rfl, rfl, trivial⟩ ?_
      refine then_next ?_
      refine vc_ret ?_
      refine then_ret ?_
      refine ret2 rfl rfl rfl ?_
      exact ⟨rfl, rfl⟩
    · skip
      exfalso; exact h32 rfl
theorem nall_d : Does Try.prog B w0 18 [.pointer none] F (fun r L => r = .slice none 0 0 ∧ L = F) := by
  refine fn_walk Try.func18 11 rfl rfl rfl [(0, .pointer none)] ⟨⟨rfl, rfl⟩, trivial⟩ ?_
  refine vc_seq ?_
  refine vc_region ?_
  refine vl_det (det_assign rfl) rfl ?_
  refine vl_end [(0, _)] ⟨rfl, trivial⟩ ?_
  refine then_next ?_
  refine vc_seq ?_
  refine vc_seq ?_
  refine vc_region ?_
  refine vl_det (det_move rfl) rfl ?_
  refine vl_det (det_ptr_nil Try.underlying32 rfl rfl) rfl ?_
  refine vl_end [(0, _), (4, _)] ⟨rfl, rfl, trivial⟩ ?_
  refine then_next ?_
  refine vc_cond_t rfl ?_
  refine vc_seq ?_
  refine vc_region ?_
  refine vl_det (det_assign rfl) rfl ?_
  refine vl_end [(2, _)] ⟨rfl, trivial⟩ ?_
  refine then_next ?_
  refine vc_ret ?_
  refine then_ret ?_
  refine ret1 rfl rfl ?_
  exact ⟨rfl, rfl⟩
end Go.Proofs.Ytbkaoncopohdbaa
