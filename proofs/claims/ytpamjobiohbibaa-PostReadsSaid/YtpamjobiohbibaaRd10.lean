/-
  Texts of one proof, joined: part 10. No condition.
-/
import Derived.Test.YtpamjobiohbibaaRd9
namespace Go.Proofs.Ytpamjobiohbibaa
open Go.RowKit
set_option linter.unusedVariables false
set_option maxRecDepth 20000
variable {B : Nat} {w0 : World} {F : List Ch} {A A1 A2 : Option Addr} {n c c1 c2 g : Nat} {s : Cs}
theorem bodyF_bad {sz n : Nat} : ∀ (S : List Nat) (s : Cs) (o : List Txt), s.e ≠ 0 → (bodyF sz n S s o).2.2 = s.e
  | [], s, o, h => by unfold bodyF; rw [if_pos h]
  | k :: r, s, o, h => by
    unfold bodyF
    rw [((Cs.bad h).2.2 (k : Int)).2.2.2.2.2, if_pos h]
theorem sizF_bad : ∀ (k : Nat) (s : Cs) (o : List Nat), s.e ≠ 0 → sizF k s o = (s, o)
  | 0, s, o, h => rfl
  | k + 1, s, o, h => by unfold sizF; rw [if_pos h]
/-- texts that were read, how many bytes, the error -/
def Rd16 (d : List Txt × Nat × Int) (F : List Ch) (r : Value) (L : List Ch) : Prop := ∃ A' c', r = .tuple #[.slice A' d.1.length c', .int .i64 d.2.1, .int .i64 d.2.2] ∧ L = .own 9 1 A' d.1.length c' (strs d.1) :: F
theorem rd16_err {k : Nat} {e : Int} {r : Value} (h : r = .tuple #[.slice none 0 0, .int .i64 k, .int .i64 e]) : Rd16 ([], k, e) F r (.own 9 1 none 0 0 [] :: F) := ⟨none, 0, h, rfl⟩
theorem nxBad_iff {s : Cs} {O : List Txt} {k : Nat} {X : Txt} (hX : X = nxX s (prvT O O.length) (decide ((k : Int) = 0))) :
    nxBad s (prvT O O.length) (decide ((k : Int) = 0)) ↔ ((nxA s (prvT O O.length) (decide ((k : Int) = 0))).text 25 = [] ∨ 25 < X.length ∨ (0 < O.length ∧ leT X (prvT O O.length)) ∨ (0 < k ∧ lcp (prvT O O.length) X ≠ nxN s (prvT O O.length) (decide ((k : Int) = 0)))) := by
  unfold nxBad mayT
  rw [← hX]
  by_cases h1 : (nxA s (prvT O O.length) (decide ((k : Int) = 0))).text 25 = []
  · exact ⟨fun _ => .inl h1, fun _ => .inl h1⟩
  · have hne : X ≠ [] := by
      rw [hX]; unfold nxX
      intro h
      exact h1 (List.append_eq_nil_iff.1 h).2
    have hk : decide ((k : Int) = 0) = false ↔ 0 < k := by simp; omega
    have hO : leT X (prvT O O.length) → 0 < O.length := fun h => by
      rcases Nat.eq_zero_or_pos O.length with h0 | h0
      · rw [show prvT O O.length = [] from if_pos h0] at h
        exact absurd h (not_leT_nil hne)
      · exact h0
    rw [hk]
    constructor
    · rintro (h | h | h)
      · exact absurd h h1
      · by_cases hl : 25 < X.length
        · exact .inr (.inl hl)
        · by_cases ht : leT X (prvT O O.length)
          · exact .inr (.inr (.inl ⟨hO ht, ht⟩))
          · exact absurd ⟨hne, by omega, ht⟩ h
      · exact .inr (.inr (.inr h))
    · rintro (h | h | h | h)
      · exact absurd h h1
      · exact .inr (.inl fun q => by omega)
      · exact .inr (.inl fun q => q.2.2 h.2)
      · exact .inr (.inr h)
theorem rread16_bad {size : Int} {b : List UInt8} (hE : size < 1 ∨ 64 < size) :
    Does Try.prog B w0 52 [.int .i64 size, .slice A n c] F (Rd16 (dictR size b) F) := by
  rw [dictR_bad hE]
  refine fn_walk Try.func52 164 rfl rfl rfl [(0, .int .i64 size), (1, .slice A n c)] ⟨⟨rfl, rfl⟩, ⟨rfl, rfl⟩, trivial⟩ ?_
  refine vc_seq ?_
  refine vc_region ?_
  refine vl_det (det_assign rfl) rfl ?_
  refine vl_det (det_assign rfl) rfl ?_
  refine vl_det (det_assign rfl) rfl ?_
  refine vl_end [(0, _), (1, _)] ⟨rfl, rfl, trivial⟩ ?_
  refine then_next ?_
  refine vc_seq ?_
  refine vc_seq ?_
  refine vc_region ?_
  refine vl_cut 6 25 [(0, _), (1, _)] (size < 1 ∨ 64 < size) ⟨rfl, rfl, trivial⟩ ?_ ?_
  · skip
    refine vl_det (det_move rfl) rfl ?_
    refine vl_det (det_lss rfl rfl) rfl ?_
    refine vl_det (det_move rfl) rfl ?_
    refine vl_guardn rfl rfl rfl (fun h22 => ?_) (fun h22 => ?_)
    · skip
      refine vl_det (det_move rfl) rfl ?_
      refine vl_guard_t rfl rfl ?_
      refine vl_det (det_gtr rfl rfl) rfl ?_
      refine vl_det (det_pick_f rfl rfl) rfl ?_
      exact vl_cut_end ⟨rfl, rfl, trivial⟩ (by first | rfl | exact bool_to_t (by first | omega | simp_all) | exact bool_to_f (by first | omega | simp_all) | exact bool_to (by first | omega | simp_all) | exact bool_to_b (by first | omega | simp_all))
    · skip
      refine vl_guard_f rfl rfl rfl rfl ?_
      refine vl_det (det_pick_t rfl rfl) rfl ?_
      exact vl_cut_end ⟨rfl, rfl, trivial⟩ (by first | rfl | exact bool_to_t (by first | omega | simp_all) | exact bool_to_f (by first | omega | simp_all) | exact bool_to (by first | omega | simp_all) | exact bool_to_b (by first | omega | simp_all))
  · skip
    refine vl_end [(0, _), (1, _), (25, _)] ⟨rfl, rfl, rfl, trivial⟩ ?_
    refine then_next ?_
    refine vc_decideU rfl (fun h25 => ?_) (fun h25 => ?_)
    · skip
      refine vc_seq ?_
      refine vc_region ?_
      refine vl_det (det_assign rfl) rfl ?_
      refine vl_det (det_assign rfl) rfl ?_
      refine vl_det (det_assign rfl) rfl ?_
      refine vl_end [(4, _), (5, _), (6, _)] ⟨rfl, rfl, rfl, trivial⟩ ?_
      refine then_next ?_
      refine vc_ret ?_
      refine then_ret ?_
      refine ret_nil_row 9 1 none ?_
      refine ret3_ rfl rfl rfl rfl ?_
      exact rd16_err rfl
    · skip
      exfalso; exact h25 hE
theorem rread16_ok {sz : Nat} {b : List UInt8} (hs1 : 1 ≤ sz) (hs2 : sz ≤ 64) (hb : Bor B w0 F 1 (.slice A b.length c) b.length (bv b)) (hbl : b.length ≤ 1000000000) :
    Does Try.prog B w0 52 [.int .i64 sz, .slice A b.length c] F (Rd16 (dictR sz b) F) := by
  have hR1 := @dictR_err sz b (by omega)
  have hR2 := @dictR_ok sz b (by omega)
  have hN1 := Cs.int_le ⟨b, 0, 0⟩ (m := 1048576) (by omega) (by omega)
  have hDS : dictS sz b = sizF (chN sz (dictN b)) (Cs.int' ⟨b, 0, 0⟩ 1048576) [] := rfl
  have hDF : dictF sz b = bodyF sz (dictN b) (dictS sz b).2 (dictS sz b).1 [] := rfl
  have hNe : Cs.int ⟨b, 0, 0⟩ 1048576 = dictN b := rfl
  rw [hNe] at hN1
  obtain ⟨N, hN⟩ : ∃ N, N = dictN b := ⟨_, rfl⟩
  rw [← hN] at hN1 hDS hDF hNe
  have hcN : chN sz N ≤ 1048639 := by
    unfold chN
    exact Nat.le_trans (Nat.div_le_self _ _) (by omega)
  have hcz : chN sz N * sz ≤ 1048639 * 64 := Nat.mul_le_mul hcN hs2
  have ho1 : CsOk (Cs.int' ⟨b, 0, 0⟩ 1048576) := CsOk.int' ⟨Nat.zero_le _, by simp only; omega⟩ (by omega)
  refine fn_walk Try.func52 164 rfl rfl rfl [(0, .int .i64 sz), (1, .slice A b.length c)] ⟨⟨rfl, rfl⟩, ⟨rfl, rfl⟩, trivial⟩ ?_
  refine vc_seq ?_
  refine vc_region ?_
  refine vl_det (det_assign rfl) rfl ?_
  refine vl_det (det_assign rfl) rfl ?_
  refine vl_det (det_assign rfl) rfl ?_
  refine vl_end [(0, _), (1, _)] ⟨rfl, rfl, trivial⟩ ?_
  refine then_next ?_
  refine vc_seq ?_
  refine vc_seq ?_
  refine vc_region ?_
  refine vl_cut 6 25 [(0, _), (1, _)] ((sz : Int) < 1 ∨ 64 < (sz : Int)) ⟨rfl, rfl, trivial⟩ ?_ ?_
  · skip
    refine vl_det (det_move rfl) rfl ?_
    refine vl_det (det_lss rfl rfl) rfl ?_
    refine vl_det (det_move rfl) rfl ?_
    refine vl_guardn rfl rfl rfl (fun h22 => ?_) (fun h22 => ?_)
    · skip
      refine vl_det (det_move rfl) rfl ?_
      refine vl_guard_t rfl rfl ?_
      refine vl_det (det_gtr rfl rfl) rfl ?_
      refine vl_det (det_pick_f rfl rfl) rfl ?_
      exact vl_cut_end ⟨rfl, rfl, trivial⟩ (by first | rfl | exact bool_to_t (by first | omega | simp_all) | exact bool_to_f (by first | omega | simp_all) | exact bool_to (by first | omega | simp_all) | exact bool_to_b (by first | omega | simp_all))
    · skip
      refine vl_guard_f rfl rfl rfl rfl ?_
      refine vl_det (det_pick_t rfl rfl) rfl ?_
      exact vl_cut_end ⟨rfl, rfl, trivial⟩ (by first | rfl | exact bool_to_t (by first | omega | simp_all) | exact bool_to_f (by first | omega | simp_all) | exact bool_to (by first | omega | simp_all) | exact bool_to_b (by first | omega | simp_all))
  · skip
    refine vl_end [(0, _), (1, _), (25, _)] ⟨rfl, rfl, rfl, trivial⟩ ?_
    refine then_next ?_
    refine vc_decideU rfl (fun h25 => ?_) (fun h25 => ?_)
    · skip
      exfalso; omega
    · skip
      refine vc_skip ?_
      refine then_next ?_
      refine vc_seq ?_
      refine vc_region ?_
      refine vl_det (det_move rfl) rfl ?_
      refine vl_call co89 rfl (rcnew_d hb (by omega)) rfl ?_
      rintro _ _ ⟨g27, A27, c27, rfl, hLL⟩
      obtain rfl := hLL.symm
      refine vl_det (det_assign rfl) rfl ?_
      refine vl_end [(0, _), (7, _)] ⟨rfl, rfl, trivial⟩ ?_
      refine then_next ?_
      refine vc_seq ?_
      refine vc_region ?_
      refine vl_det (det_move rfl) rfl ?_
      refine vl_call co90 rfl (rcint_d (s := ⟨b, 0, 0⟩) ⟨Nat.zero_le _, by simp only; omega⟩ (by first | (exact Bor.own (by repeat (first | exact List.Mem.head _ | apply List.Mem.tail))) | (repeat (first | assumption | apply Bor.cons))) (most := 1048576) (by omega) (by omega)) rfl ?_
      rintro _ _ ⟨rfl, hLL⟩
      obtain rfl := hLL.symm
      rw [hNe]
      refine vl_det (det_assign rfl) rfl ?_
      refine vl_end [(0, _), (7, _), (8, _)] ⟨rfl, rfl, rfl, trivial⟩ ?_
      refine then_next ?_
      refine vc_seq ?_
      refine vc_seq ?_
      refine vc_region ?_
      refine vl_det (det_move rfl) rfl ?_
      refine vl_det (det_nilCheck rfl) rfl ?_
      refine vl_det (det_fieldAddr_ Try.underlying135 rfl (by kernel_rfl) rfl rfl) rfl ?_
      refine vl_det (det_load_blk (by kernel_rfl) rfl (by repeat (first | exact .hd | apply Sel.tl)) rfl) rfl ?_
      refine vl_det (det_neq rfl rfl) rfl ?_
      refine vl_end [(0, _), (7, _), (8, _), (34, _)] ⟨rfl, rfl, rfl, rfl, trivial⟩ ?_
      refine then_next ?_
      refine vc_decideU rfl (fun h34 => ?_) (fun h34 => ?_)
      · skip
        have hz := bodyF_bad (sz := sz) (n := N) (dictS sz b).2 (dictS sz b).1 [] (by rw [hDS, sizF_bad _ _ _ h34]; exact h34)
        rw [← hDF, hDS, sizF_bad _ _ _ h34] at hz
        have hz2 := hR1 (by rw [hz]; exact h34)
        rw [hz] at hz2
        refine vc_seq ?_
        refine vq_region (by kernel_rfl) (by kernel_rfl) ?_
        refine vq_det (det_move rfl) rfl ?_
        refine vq_det (det_nilCheck rfl) rfl ?_
        refine vq_det (det_fieldAddr_ Try.underlying135 rfl (by kernel_rfl) rfl rfl) rfl ?_
        refine vq_det (det_load_blk (by kernel_rfl) rfl (by repeat (first | exact .hd | apply Sel.tl)) rfl) rfl ?_
        refine vq_det (det_assign rfl) rfl ?_
        refine vq_det (det_assign rfl) rfl ?_
        refine vq_det (det_assign rfl) rfl ?_
        refine vq_end [(4, _), (5, _), (6, _)] ⟨rfl, rfl, rfl, trivial⟩ ?_
        refine then_next ?_
        refine vc_ret ?_
        refine then_ret ?_
        rw [hz2]
        refine ret_nil_row 9 1 none ?_
        refine ret_wk (L' := .own 9 1 none 0 0 [] :: F) (.cons (.skip (.skip (.refl _)))) ?_
        refine ret3_ rfl rfl rfl rfl ?_
        exact rd16_err rfl
      · skip
        have h34' : (Cs.int' ⟨b, 0, 0⟩ 1048576).e = 0 := by simpa using h34
        refine vc_skip ?_
        refine then_next ?_
        refine vc_seq ?_
        refine vc_nil_row 3 1 none ?_
        refine vc_region ?_
        refine vl_det (det_assign rfl) rfl ?_
        refine vl_end [(0, _), (7, _), (8, _), (9, _)] ⟨rfl, rfl, rfl, rfl, trivial⟩ ?_
        refine then_next ?_
        refine vc_seq ?_
        refine vc_seq ?_
        refine vc_region ?_
        refine vl_det (det_assign rfl) rfl ?_
        refine vl_end [(0, _), (7, _), (8, _), (9, _), (10, _)] ⟨rfl, rfl, rfl, rfl, rfl, trivial⟩ ?_
        refine then_next ?_
        refine vc_block ?_
        refine vc_loopJ (fun zf zL zm => ∃ (j q : Nat) (s : Cs) (S : List Nat) (A9 : Option Addr) (c9 : Nat), (j ≤ chN sz N ∧ q = j * sz ∧ S.length = j ∧ CsOk s ∧ s.b = b ∧ s.e = 0 ∧ (∀ i, i < S.length → S.getD i 0 ≤ 2000) ∧ sizF (chN sz N - j) s S = dictS sz b) ∧ chN sz N - j = zm ∧ Sub zf [(0, .int .i64 sz), (7, .pointer (some ⟨g27, 0, none⟩)), (8, .int .i64 N), (9, .slice A9 S.length c9), (10, .int .i64 q)] ∧ Wk zL (Rv g27 A27 c27 s :: .own 5 1 A27 b.length c27 (bv b) :: .own 3 1 A9 S.length c9 (natv S) :: F)) _ ⟨0, 0, Cs.int' ⟨b, 0, 0⟩ 1048576, [], none, 0, ⟨Nat.zero_le _, (Nat.zero_mul _).symm, rfl, ho1, Cs.int'_b _ _, h34', fun i h => absurd h (by simp), hDS.symm⟩, rfl, ⟨(by first | rfl | exact int_to (by omega) | exact sl_to (by omega)), (by first | rfl | exact int_to (by omega) | exact sl_to (by omega)), (by first | rfl | exact int_to (by omega) | exact sl_to (by omega)), (by first | rfl | exact int_to (by omega) | exact sl_to (by omega)), (by first | rfl | exact int_to (by omega) | exact sl_to (by omega)), trivial⟩, (wu1 (wu1 (wu0 (.refl _))))⟩ ?_
        rintro _ _ _ ⟨j, q, s, S, A9, c9, ⟨hj, hq, hSl, ho, hsb, hse, hS2, hS⟩, rfl, hs, hp⟩
        refine vc_weaken _ hs (vc_wk hp ?_)
        clear hs hp
        refine vc_seq ?_
        refine vc_seq ?_
        refine vc_region ?_
        refine vl_det (det_move rfl) rfl ?_
        refine vl_det (det_move rfl) rfl ?_
        refine vl_det (det_lss rfl rfl) rfl ?_
        refine vl_end [(0, _), (7, _), (8, _), (9, _), (10, _), (41, _)] ⟨rfl, rfl, rfl, rfl, rfl, rfl, trivial⟩ ?_
        refine then_next ?_
        refine vc_decideU rfl (fun h41 => ?_) (fun h41 => ?_)
        · skip
          have hjN : j < chN sz N := (chN_lt hs1).2 (by omega)
          have hjz : (j + 1) * sz ≤ chN sz N * sz := Nat.mul_le_mul_right sz hjN
          have hjs : (j + 1) * sz = j * sz + sz := Nat.succ_mul j sz
          have hi2 := Cs.int_le s (m := 2000) (by omega) (by omega)
          have hel : S.length + 1 = (S ++ [s.int 2000]).length := by simp
          rw [show chN sz N - j = (chN sz N - (j + 1)) + 1 by omega, sizF, if_neg (by simpa using hse)] at hS
          refine vc_skip ?_
          refine then_next ?_
          refine vc_seq ?_
          refine vc_block ?_
          refine vc_seq ?_
          refine vc_region ?_
          refine vl_det (det_move rfl) rfl ?_
          refine vl_det (det_move rfl) rfl ?_
          refine vl_call co90 rfl (rcint_d ho (by rw [hsb]; exact (by first | (exact Bor.own (by repeat (first | exact List.Mem.head _ | apply List.Mem.tail))) | (repeat (first | assumption | apply Bor.cons)))) (most := 2000) (by omega) (by omega)) rfl ?_
          rintro _ _ ⟨rfl, hLL⟩
          obtain rfl := hLL.symm
          refine vl_push slT37 rfl rfl rfl rfl rfl (fun _ => rfl) (by repeat (first | exact .hd | apply Sel.tl)) (by omega) (by omega) ?_
          intro _ A49 c49
          refine vl_det (det_assign rfl) rfl ?_
          refine vl_end [(0, _), (7, _), (8, _), (9, _), (10, _)] ⟨rfl, rfl, rfl, rfl, rfl, trivial⟩ ?_
          refine then_next ?_
          refine vc_seq ?_
          refine vc_region ?_
          refine vl_det (det_move rfl) rfl ?_
          refine vl_det (det_nilCheck rfl) rfl ?_
          refine vl_det (det_fieldAddr_ Try.underlying135 rfl (by kernel_rfl) rfl rfl) rfl ?_
          refine vl_det (det_load_blk (by kernel_rfl) rfl (by repeat (first | exact .hd | apply Sel.tl)) rfl) rfl ?_
          refine vl_det (det_neq rfl rfl) rfl ?_
          refine vl_end [(0, _), (7, _), (8, _), (9, _), (10, _), (54, _)] ⟨rfl, rfl, rfl, rfl, rfl, rfl, trivial⟩ ?_
          refine then_next ?_
          refine vc_decideU rfl (fun h54 => ?_) (fun h54 => ?_)
          · skip
            have hz := bodyF_bad (sz := sz) (n := N) (dictS sz b).2 (dictS sz b).1 [] (by rw [← hS, sizF_bad _ _ _ h54]; exact h54)
            rw [← hDF, ← hS, sizF_bad _ _ _ h54] at hz
            have hz2 := hR1 (by rw [hz]; exact h54)
            rw [hz] at hz2
            refine vc_seq ?_
            refine vq_region (by kernel_rfl) (by kernel_rfl) ?_
            refine vq_det (det_move rfl) rfl ?_
            refine vq_det (det_nilCheck rfl) rfl ?_
            refine vq_det (det_fieldAddr_ Try.underlying135 rfl (by kernel_rfl) rfl rfl) rfl ?_
            refine vq_det (det_load_blk (by kernel_rfl) rfl (by repeat (first | exact .hd | apply Sel.tl)) rfl) rfl ?_
            refine vq_det (det_assign rfl) rfl ?_
            refine vq_det (det_assign rfl) rfl ?_
            refine vq_det (det_assign rfl) rfl ?_
            refine vq_end [(4, _), (5, _), (6, _)] ⟨rfl, rfl, rfl, trivial⟩ ?_
            refine then_next ?_
            refine vc_ret ?_
            refine in_ret ?_
            refine then_ret ?_
            refine loop_ret ?_
            refine in_ret ?_
            refine then_ret ?_
            rw [hz2]
            refine ret_nil_row 9 1 none ?_
            refine ret_wk (L' := .own 9 1 none 0 0 [] :: F) (.cons (.skip (.skip (.skip (.refl _))))) ?_
            refine ret3_ rfl rfl rfl rfl ?_
            exact rd16_err rfl
          · skip
            refine vc_skip ?_
            refine in_normal ?_
            refine then_next ?_
            refine vc_region ?_
            refine vl_det (det_move rfl) rfl ?_
            refine vl_det (det_move rfl) rfl ?_
            refine vl_det (det_add rfl rfl (w_i64 (by omega) (by omega))) rfl ?_
            refine vl_det (det_assign rfl) rfl ?_
            refine vl_end [(0, _), (7, _), (8, _), (9, _), (10, _)] ⟨rfl, rfl, rfl, rfl, rfl, trivial⟩ ?_
            refine in_loop_ ⟨_, by omega, j + 1, q + sz, s.int' 2000, S ++ [s.int 2000], A49, c49, ⟨by omega, by omega, by simp; omega, ho.int' (by omega), by rw [Cs.int'_b]; exact hsb, by simpa using h54, fun i hi => by
  rcases Nat.lt_or_ge i S.length with h | h
  · rw [show (S ++ [s.int 2000]).getD i 0 = S.getD i 0 by simp [List.getD, List.getElem?_append_left h]]; exact hS2 i h
  · have : i = S.length := by simp at hi; omega
    rw [this]; simp; omega, hS⟩, rfl, ⟨(by first | rfl | exact int_to (by omega) | exact sl_to (by omega)), (by first | rfl | exact int_to (by omega) | exact sl_to (by omega)), (by first | rfl | exact int_to (by omega) | exact sl_to (by omega)), (by first | rfl | exact int_to (by omega) | exact sl_to (by omega)), (by first | rfl | exact int_to (by omega) | exact sl_to (by omega)), trivial⟩, .cons (.cons (wk_own hel (by simp [natv]) (.refl _)))⟩
        · skip
          have hjN : j = chN sz N := by
            rcases Nat.lt_or_ge j (chN sz N) with h | h
            · have := (chN_lt hs1).1 h; omega
            · omega
          rw [show chN sz N - j = 0 by omega] at hS
          rw [← (show (s, S) = dictS sz b from hS)] at hDF
          refine vc_exit ?_
          refine then_exit ?_
          refine loop_exit ?_
          refine in_eq ?_
          refine then_next ?_
          refine vc_seq ?_
          refine vc_nil_row 9 1 none ?_
          refine vc_region ?_
          refine vl_det (det_assign rfl) rfl ?_
          refine vl_end [(0, _), (7, _), (8, _), (9, _), (11, _)] ⟨rfl, rfl, rfl, rfl, rfl, trivial⟩ ?_
          refine then_next ?_
          refine vc_seq ?_
          refine vc_seq ?_
          refine vc_region ?_
          refine vl_det (det_assign rfl) rfl ?_
          refine vl_end [(0, _), (7, _), (8, _), (9, _), (11, _), (12, _)] ⟨rfl, rfl, rfl, rfl, rfl, rfl, trivial⟩ ?_
          refine then_next ?_
          refine vc_block ?_
          refine vc_loopJ (fun zf zL zm => ∃ (i : Nat) (u : Cs) (o : List Txt) (P1 : Option Addr) (p1 : Nat), (i ≤ S.length ∧ o.length = min (i * sz) N ∧ CsOk u ∧ u.b = b ∧ u.e = 0 ∧ Le25 o ∧ bodyF sz N (S.drop i) u o = dictF sz b) ∧ S.length - i = zm ∧ Sub zf [(0, .int .i64 sz), (7, .pointer (some ⟨g27, 0, none⟩)), (8, .int .i64 N), (9, .slice A9 S.length c9), (11, .slice P1 o.length p1), (12, .int .i64 i)] ∧ Wk zL (Rv g27 A27 c27 u :: .own 5 1 A27 b.length c27 (bv b) :: .own 9 1 P1 o.length p1 (strs o) :: .own 3 1 A9 S.length c9 (natv S) :: F)) _ ⟨0, s, [], none, 0, ⟨Nat.zero_le _, by simp, ho, hsb, hse, fun x hx => absurd hx (by simp), hDF.symm⟩, rfl, ⟨(by first | rfl | exact int_to (by omega) | exact sl_to (by omega)), (by first | rfl | exact int_to (by omega) | exact sl_to (by omega)), (by first | rfl | exact int_to (by omega) | exact sl_to (by omega)), (by first | rfl | exact int_to (by omega) | exact sl_to (by omega)), (by first | rfl | exact int_to (by omega) | exact sl_to (by omega)), (by first | rfl | exact int_to (by omega) | exact sl_to (by omega)), trivial⟩, (wu1 (wu1 (wu0 (.refl _))))⟩ ?_
          rintro _ _ _ ⟨i, u, o, P1, p1, ⟨hi, hol, hou, hub, hue, ho25, hB⟩, rfl, hs, hp⟩
          refine vc_weaken _ hs (vc_wk hp ?_)
          clear hs hp
          refine vc_seq ?_
          refine vc_seq ?_
          refine vc_region ?_
          refine vl_det (det_move rfl) rfl ?_
          refine vl_det (det_move rfl) rfl ?_
          refine vl_det (det_len_sl Try.underlying37 rfl) rfl ?_
          refine vl_det (det_lss rfl rfl) rfl ?_
          refine vl_end [(0, _), (7, _), (8, _), (9, _), (11, _), (12, _), (62, _)] ⟨rfl, rfl, rfl, rfl, rfl, rfl, rfl, trivial⟩ ?_
          refine then_next ?_
          refine vc_decideU rfl (fun h62 => ?_) (fun h62 => ?_)
          · skip
            have hiS : i < S.length := by omega
            have hzN : i * sz < N := (chN_lt hs1).1 (show i < chN sz N by omega)
            have hiz : (i + 1) * sz = i * sz + sz := Nat.succ_mul i sz
            have hS2k := hS2 i hiS
            rw [drop_getT hiS, bodyF] at hB
            obtain ⟨k, hk⟩ : ∃ k, k = S.getD i 0 := ⟨_, rfl⟩
            have hld : (natv S)[i * 1]? = some (.int .i64 (k : Int)) := by rw [hk]; exact natv_get hiS
            rw [← hk] at hB hS2k
            obtain ⟨M, hM⟩ : ∃ M, M = min sz (N - o.length) := ⟨_, rfl⟩
            rw [← hM] at hB
            have htk : (u.take k).length ≤ 1000000 := by
              unfold Cs.take
              split
              · simp
              · split
                · simp
                · simp only [List.length_take]; omega
            refine vc_skip ?_
            refine then_next ?_
            refine vc_seq ?_
            refine vc_block ?_
            refine vc_seq ?_
            refine vc_region ?_
            refine vl_det (det_move rfl) rfl ?_
            refine vl_det (det_move rfl) rfl ?_
            refine vl_det (det_move rfl) rfl ?_
            refine vl_det (det_indexAddr (size := 1) Try.underlying37 (by kernel_rfl) rfl rfl rfl (by omega) (by first | (exact Bor.own (by repeat (first | exact List.Mem.head _ | apply List.Mem.tail))) | (repeat (first | assumption | apply Bor.cons)))) rfl ?_
            refine vl_det (det_load_row (by kernel_rfl) rfl (by first | (exact Bor.own (by repeat (first | exact List.Mem.head _ | apply List.Mem.tail))) | (repeat (first | assumption | apply Bor.cons))) (by omega) hld) rfl ?_
            refine vl_call co91 rfl (rctake_d hou (by rw [hub]; exact (by first | (exact Bor.own (by repeat (first | exact List.Mem.head _ | apply List.Mem.tail))) | (repeat (first | assumption | apply Bor.cons)))) (m := (k : Int)) (by omega) (by omega)) rfl ?_
            rintro _ _ ⟨A70, c70, rfl, hLL⟩
            obtain rfl := hLL.symm
            refine vl_det (det_assign rfl) rfl ?_
            refine vl_end [(0, _), (7, _), (8, _), (9, _), (11, _), (12, _), (13, _)] ⟨rfl, rfl, rfl, rfl, rfl, rfl, rfl, trivial⟩ ?_
            refine then_next ?_
            refine vc_seq ?_
            refine vc_seq ?_
            refine vc_region ?_
            refine vl_det (det_move rfl) rfl ?_
            refine vl_det (det_nilCheck rfl) rfl ?_
            refine vl_det (det_fieldAddr_ Try.underlying135 rfl (by kernel_rfl) rfl rfl) rfl ?_
            refine vl_det (det_load_blk (by kernel_rfl) rfl (by repeat (first | exact .hd | apply Sel.tl)) rfl) rfl ?_
            refine vl_det (det_neq rfl rfl) rfl ?_
            refine vl_end [(0, _), (7, _), (8, _), (9, _), (11, _), (12, _), (13, _), (75, _)] ⟨rfl, rfl, rfl, rfl, rfl, rfl, rfl, rfl, trivial⟩ ?_
            refine then_next ?_
            refine vc_decideU rfl (fun h75 => ?_) (fun h75 => ?_)
            · skip
              rw [if_pos h75] at hB
              have hz2 := hR1 (by rw [← hB]; exact h75)
              rw [← hB] at hz2
              refine vc_seq ?_
              refine vq_region (by kernel_rfl) (by kernel_rfl) ?_
              refine vq_det (det_move rfl) rfl ?_
              refine vq_det (det_nilCheck rfl) rfl ?_
              refine vq_det (det_fieldAddr_ Try.underlying135 rfl (by kernel_rfl) rfl rfl) rfl ?_
              refine vq_det (det_load_blk (by kernel_rfl) rfl (by repeat (first | exact .hd | apply Sel.tl)) rfl) rfl ?_
              refine vq_det (det_assign rfl) rfl ?_
              refine vq_det (det_assign rfl) rfl ?_
              refine vq_det (det_assign rfl) rfl ?_
              refine vq_end [(4, _), (5, _), (6, _)] ⟨rfl, rfl, rfl, trivial⟩ ?_
              refine then_next ?_
              refine vc_ret ?_
              refine then_ret ?_
              refine in_ret ?_
              refine then_ret ?_
              refine loop_ret ?_
              refine in_ret ?_
              refine then_ret ?_
              rw [hz2]
              refine ret_nil_row 9 1 none ?_
              refine ret_wk (L' := .own 9 1 none 0 0 [] :: F) (.cons (.skip (.skip (.skip (.skip (.skip (.refl _))))))) ?_
              refine ret3_ rfl rfl rfl rfl ?_
              exact rd16_err rfl
            · skip
              rw [if_neg h75] at hB
              obtain ⟨pt, hpt⟩ : ∃ pt, pt = u.take k := ⟨_, rfl⟩
              rw [← hpt] at hB htk ⊢
              obtain ⟨G, hG⟩ : ∃ G, G = fillF M true ⟨pt, 0, 0⟩ o := ⟨_, rfl⟩
              rw [← hG] at hB
              refine vc_skip ?_
              refine then_next ?_
              refine vc_seq ?_
              refine vc_region ?_
              refine vl_det (det_move rfl) rfl ?_
              refine vl_call co89 rfl (rcnew_d (by first | (exact Bor.own (by repeat (first | exact List.Mem.head _ | apply List.Mem.tail))) | (repeat (first | assumption | apply Bor.cons))) (by omega)) rfl ?_
              rintro _ _ ⟨g81, A81, c81, rfl, hLL⟩
              obtain rfl := hLL.symm
              refine vl_det (det_assign rfl) rfl ?_
              refine vl_end [(0, _), (7, _), (8, _), (9, _), (11, _), (12, _), (14, _)] ⟨rfl, rfl, rfl, rfl, rfl, rfl, rfl, trivial⟩ ?_
              refine then_next ?_
              refine vc_seq ?_
              refine vc_seq ?_
              refine vc_region ?_
              refine vl_det (det_assign rfl) rfl ?_
              refine vl_end [(0, _), (7, _), (8, _), (9, _), (11, _), (12, _), (14, _), (15, _)] ⟨rfl, rfl, rfl, rfl, rfl, rfl, rfl, rfl, trivial⟩ ?_
              refine then_next ?_
              refine vc_block ?_
              refine vc_loopJ (fun zf zL zm => ∃ (y : Nat) (s : Cs) (O : List Txt) (P2 : Option Addr) (p2 : Nat), (y ≤ M ∧ CsOk s ∧ s.b = pt ∧ s.e = 0 ∧ O.length = o.length + y ∧ Le25 O ∧ fillF (M - y) (decide ((y : Int) = 0)) s O = G) ∧ M - y = zm ∧ Sub zf [(0, .int .i64 sz), (7, .pointer (some ⟨g27, 0, none⟩)), (8, .int .i64 N), (9, .slice A9 S.length c9), (11, .slice P2 O.length p2), (12, .int .i64 i), (14, .pointer (some ⟨g81, 0, none⟩)), (15, .int .i64 y)] ∧ Wk zL (Rv g81 A81 c81 s :: .own 5 1 A81 pt.length c81 (bv pt) :: .own 9 1 P2 O.length p2 (strs O) :: Rv g27 A27 c27 (u.take' k) :: .own 5 1 A27 b.length c27 (bv b) :: .own 3 1 A9 S.length c9 (natv S) :: F)) _ ⟨0, ⟨pt, 0, 0⟩, o, P1, p1, ⟨Nat.zero_le _, ⟨Nat.zero_le _, by simp only; omega⟩, rfl, rfl, rfl, ho25, hG.symm⟩, rfl, ⟨(by first | rfl | exact int_to (by omega) | exact sl_to (by omega)), (by first | rfl | exact int_to (by omega) | exact sl_to (by omega)), (by first | rfl | exact int_to (by omega) | exact sl_to (by omega)), (by first | rfl | exact int_to (by omega) | exact sl_to (by omega)), (by first | rfl | exact int_to (by omega) | exact sl_to (by omega)), (by first | rfl | exact int_to (by omega) | exact sl_to (by omega)), (by first | rfl | exact int_to (by omega) | exact sl_to (by omega)), (by first | rfl | exact int_to (by omega) | exact sl_to (by omega)), trivial⟩, (wu0 (wu0 (wu3 (wu0 (wu1 (wu1 (.skip (.refl _))))))))⟩ ?_
              rintro _ _ _ ⟨y, s, O, P2, p2, ⟨hy, hos, hsb2, hse2, hOl, hO25, hF⟩, rfl, hs, hp⟩
              refine vc_weaken _ hs (vc_wk hp ?_)
              clear hs hp
              refine vc_seq ?_
              refine vc_seq ?_
              refine vc_region ?_
              refine vl_cut 9 90 [(0, _), (7, _), (8, _), (9, _), (11, _), (12, _), (14, _), (15, _)] ((y : Int) < sz ∧ (O.length : Int) < N) ⟨rfl, rfl, rfl, rfl, rfl, rfl, rfl, rfl, trivial⟩ ?_ ?_
              · skip
                refine vl_det (det_move rfl) rfl ?_
                refine vl_det (det_move rfl) rfl ?_
                refine vl_det (det_lss rfl rfl) rfl ?_
                refine vl_det (det_move rfl) rfl ?_
                refine vl_guardp rfl rfl rfl (fun h85 => ?_) (fun h85 => ?_)
                · skip
                  refine vl_det (det_move rfl) rfl ?_
                  refine vl_guard_t rfl rfl ?_
                  refine vl_det (det_len_sl Try.underlying26 rfl) rfl ?_
                  refine vl_guard_t rfl rfl ?_
                  refine vl_det (det_move rfl) rfl ?_
                  refine vl_guard_t rfl rfl ?_
                  refine vl_det (det_lss rfl rfl) rfl ?_
                  refine vl_det (det_pick_t rfl rfl) rfl ?_
                  exact vl_cut_end ⟨rfl, rfl, rfl, rfl, rfl, rfl, rfl, rfl, trivial⟩ (by first | rfl | exact bool_to_t (by first | omega | simp_all) | exact bool_to_f (by first | omega | simp_all) | exact bool_to (by first | omega | simp_all) | exact bool_to_b (by first | omega | simp_all))
                · skip
                  refine vl_guard_f rfl rfl rfl rfl ?_
                  refine vl_guard_f rfl rfl rfl rfl ?_
                  refine vl_guard_f rfl rfl rfl rfl ?_
                  refine vl_det (det_pick_f rfl rfl) rfl ?_
                  exact vl_cut_end ⟨rfl, rfl, rfl, rfl, rfl, rfl, rfl, rfl, trivial⟩ (by first | rfl | exact bool_to_t (by first | omega | simp_all) | exact bool_to_f (by first | omega | simp_all) | exact bool_to (by first | omega | simp_all) | exact bool_to_b (by first | omega | simp_all))
              · skip
                refine vl_end [(0, _), (7, _), (8, _), (9, _), (11, _), (12, _), (14, _), (15, _), (90, _)] ⟨rfl, rfl, rfl, rfl, rfl, rfl, rfl, rfl, rfl, trivial⟩ ?_
                refine then_next ?_
                refine vc_decideU rfl (fun h90 => ?_) (fun h90 => ?_)
                · skip
                  obtain ⟨M', hM'⟩ : ∃ M', M - y = M' + 1 := ⟨M - y - 1, by omega⟩
                  rw [hM', fillF] at hF
                  have hpl := hO25.prv O.length
                  obtain ⟨was, hwas⟩ : ∃ was, was = prvT O O.length := ⟨_, rfl⟩
                  rw [← hwas] at hF hpl
                  refine vc_skip ?_
                  refine then_next ?_
                  refine vc_seq ?_
                  refine vc_block ?_
                  refine vc_seq ?_
                  refine vc_region ?_
                  refine vl_det (det_assign rfl) rfl ?_
                  refine vl_end [(0, _), (7, _), (8, _), (9, _), (11, _), (12, _), (14, _), (15, _), (16, _)] ⟨rfl, rfl, rfl, rfl, rfl, rfl, rfl, rfl, rfl, trivial⟩ ?_
                  refine then_next ?_
                  refine vc_seqJ (fun zf zL => Sub zf [(0, .int .i64 sz), (7, .pointer (some ⟨g27, 0, none⟩)), (8, .int .i64 N), (9, .slice A9 S.length c9), (11, .slice P2 O.length p2), (12, .int .i64 i), (14, .pointer (some ⟨g81, 0, none⟩)), (15, .int .i64 y), (16, .string ⟨was.toArray⟩)] ∧ Wk zL (Rv g81 A81 c81 s :: .own 5 1 A81 pt.length c81 (bv pt) :: .own 9 1 P2 O.length p2 (strs O) :: Rv g27 A27 c27 (u.take' k) :: .own 5 1 A27 b.length c27 (bv b) :: .own 3 1 A9 S.length c9 (natv S) :: F)) ?_ ?_
                  · skip
                    refine vc_seq ?_
                    refine vc_region ?_
                    refine vl_det (det_move rfl) rfl ?_
                    refine vl_det (det_len_sl Try.underlying26 rfl) rfl ?_
                    refine vl_det (det_gtr rfl rfl) rfl ?_
                    refine vl_end [(0, _), (7, _), (8, _), (9, _), (11, _), (12, _), (14, _), (15, _), (16, _), (95, _)] ⟨rfl, rfl, rfl, rfl, rfl, rfl, rfl, rfl, rfl, rfl, trivial⟩ ?_
                    refine then_next ?_
                    refine vc_decideU rfl (fun h95 => ?_) (fun h95 => ?_)
                    · skip
                      have hlst : O.getD (O.length - 1) [] = was := by rw [hwas]; exact (if_neg (by omega)).symm
                      refine vc_region ?_
                      refine vl_det (det_move rfl) rfl ?_
                      refine vl_det (det_move rfl) rfl ?_
                      refine vl_det (det_len_sl Try.underlying26 rfl) rfl ?_
                      refine vl_det (det_sub rfl rfl (w_i64 (by omega) (by omega))) rfl ?_
                      refine vl_det (det_indexAddr (i := O.length - 1) (size := 1) Try.underlying26 (by kernel_rfl) rfl rfl (by omega) (by omega) (by first | (exact Bor.own (by repeat (first | exact List.Mem.head _ | apply List.Mem.tail))) | (repeat (first | assumption | apply Bor.cons)))) rfl ?_
                      refine vl_det (det_load_str (b := O) (j := O.length - 1) (by kernel_rfl) rfl (by first | (exact Bor.own (by repeat (first | exact List.Mem.head _ | apply List.Mem.tail))) | (repeat (first | assumption | apply Bor.cons))) (by omega)) rfl ?_
                      rw [hlst]
                      refine vl_det (det_assign rfl) rfl ?_
                      refine vl_end [(0, _), (7, _), (8, _), (9, _), (11, _), (12, _), (14, _), (15, _), (16, _)] ⟨rfl, rfl, rfl, rfl, rfl, rfl, rfl, rfl, rfl, trivial⟩ ?_
                      exact in_join ⟨⟨(by first | rfl | exact int_to (by omega) | exact sl_to (by omega)), (by first | rfl | exact int_to (by omega) | exact sl_to (by omega)), (by first | rfl | exact int_to (by omega) | exact sl_to (by omega)), (by first | rfl | exact int_to (by omega) | exact sl_to (by omega)), (by first | rfl | exact int_to (by omega) | exact sl_to (by omega)), (by first | rfl | exact int_to (by omega) | exact sl_to (by omega)), (by first | rfl | exact int_to (by omega) | exact sl_to (by omega)), (by first | rfl | exact int_to (by omega) | exact sl_to (by omega)), (by first | rfl | exact int_to (by omega) | exact sl_to (by omega)), trivial⟩, .refl _⟩
                    · skip
                      have hlst : was = [] := by rw [hwas]; exact if_pos (by omega)
                      refine vc_skip ?_
                      rw [hlst]
                      exact in_join ⟨⟨(by first | rfl | exact int_to (by omega) | exact sl_to (by omega)), (by first | rfl | exact int_to (by omega) | exact sl_to (by omega)), (by first | rfl | exact int_to (by omega) | exact sl_to (by omega)), (by first | rfl | exact int_to (by omega) | exact sl_to (by omega)), (by first | rfl | exact int_to (by omega) | exact sl_to (by omega)), (by first | rfl | exact int_to (by omega) | exact sl_to (by omega)), (by first | rfl | exact int_to (by omega) | exact sl_to (by omega)), (by first | rfl | exact int_to (by omega) | exact sl_to (by omega)), (by first | rfl | exact int_to (by omega) | exact sl_to (by omega)), trivial⟩, .refl _⟩
                  · rintro _ _ ⟨hs, hp⟩
                    refine vc_weaken _ hs (vc_wk hp ?_)
                    clear hs hp
                    refine vc_seq ?_
                    refine vc_region ?_
                    refine vl_det (det_assign rfl) rfl ?_
                    refine vl_end [(0, _), (7, _), (8, _), (9, _), (11, _), (12, _), (14, _), (15, _), (16, _), (17, _)] ⟨rfl, rfl, rfl, rfl, rfl, rfl, rfl, rfl, rfl, rfl, trivial⟩ ?_
                    refine then_next ?_
                    refine vc_seqJ (fun zf zL => Sub zf [(0, .int .i64 sz), (7, .pointer (some ⟨g27, 0, none⟩)), (8, .int .i64 N), (9, .slice A9 S.length c9), (11, .slice P2 O.length p2), (12, .int .i64 i), (14, .pointer (some ⟨g81, 0, none⟩)), (15, .int .i64 y), (16, .string ⟨was.toArray⟩), (17, .int .i64 (nxN s was (decide ((y : Int) = 0))))] ∧ Wk zL (Rv g81 A81 c81 (nxA s was (decide ((y : Int) = 0))) :: .own 5 1 A81 pt.length c81 (bv pt) :: .own 9 1 P2 O.length p2 (strs O) :: Rv g27 A27 c27 (u.take' k) :: .own 5 1 A27 b.length c27 (bv b) :: .own 3 1 A9 S.length c9 (natv S) :: F)) ?_ ?_
                    · skip
                      refine vc_seq ?_
                      refine vc_region ?_
                      refine vl_det (det_move rfl) rfl ?_
                      refine vl_det (det_gtr rfl rfl) rfl ?_
                      refine vl_end [(0, _), (7, _), (8, _), (9, _), (11, _), (12, _), (14, _), (15, _), (16, _), (17, _), (103, _)] ⟨rfl, rfl, rfl, rfl, rfl, rfl, rfl, rfl, rfl, rfl, rfl, trivial⟩ ?_
                      refine then_next ?_
                      refine vc_decideU rfl (fun h103 => ?_) (fun h103 => ?_)
                      · skip
                        have hdy : decide ((y : Int) = 0) = false := decide_eq_false (by omega)
                        refine vc_region ?_
                        refine vl_det (det_move rfl) rfl ?_
                        refine vl_det (det_move rfl) rfl ?_
                        refine vl_det (det_len_s Try.underlying9 rfl) rfl ?_
                        refine vl_call co90 rfl (rcint_d hos (by rw [hsb2]; exact (by first | (exact Bor.own (by repeat (first | exact List.Mem.head _ | apply List.Mem.tail))) | (repeat (first | assumption | apply Bor.cons)))) (most := was.length) (by omega) (by omega)) rfl ?_
                        rintro _ _ ⟨rfl, hLL⟩
                        obtain rfl := hLL.symm
                        refine vl_det (det_assign rfl) rfl ?_
                        refine vl_end [(0, _), (7, _), (8, _), (9, _), (11, _), (12, _), (14, _), (15, _), (16, _), (17, _)] ⟨rfl, rfl, rfl, rfl, rfl, rfl, rfl, rfl, rfl, rfl, trivial⟩ ?_
                        rw [hdy]
                        exact in_join ⟨⟨(by first | rfl | exact int_to (by omega) | exact sl_to (by omega)), (by first | rfl | exact int_to (by omega) | exact sl_to (by omega)), (by first | rfl | exact int_to (by omega) | exact sl_to (by omega)), (by first | rfl | exact int_to (by omega) | exact sl_to (by omega)), (by first | rfl | exact int_to (by omega) | exact sl_to (by omega)), (by first | rfl | exact int_to (by omega) | exact sl_to (by omega)), (by first | rfl | exact int_to (by omega) | exact sl_to (by omega)), (by first | rfl | exact int_to (by omega) | exact sl_to (by omega)), (by first | rfl | exact int_to (by omega) | exact sl_to (by omega)), (by first | rfl | exact int_to (by omega) | exact sl_to (by omega)), trivial⟩, .refl _⟩
                      · skip
                        have hdy : decide ((y : Int) = 0) = true := decide_eq_true (by omega)
                        refine vc_skip ?_
                        rw [hdy]
                        exact in_join ⟨⟨(by first | rfl | exact int_to (by omega) | exact sl_to (by omega)), (by first | rfl | exact int_to (by omega) | exact sl_to (by omega)), (by first | rfl | exact int_to (by omega) | exact sl_to (by omega)), (by first | rfl | exact int_to (by omega) | exact sl_to (by omega)), (by first | rfl | exact int_to (by omega) | exact sl_to (by omega)), (by first | rfl | exact int_to (by omega) | exact sl_to (by omega)), (by first | rfl | exact int_to (by omega) | exact sl_to (by omega)), (by first | rfl | exact int_to (by omega) | exact sl_to (by omega)), (by first | rfl | exact int_to (by omega) | exact sl_to (by omega)), (by first | rfl | exact int_to (by omega) | exact sl_to (by omega)), trivial⟩, .refl _⟩
                    · rintro _ _ ⟨hs, hp⟩
                      refine vc_weaken _ hs (vc_wk hp ?_)
                      clear hs hp
                      have hnxb := nxA_b s was (decide ((y : Int) = 0))
                      have hnl := nxN_le s was (decide ((y : Int) = 0)) (by omega)
                      have hoA : CsOk (nxA s was (decide ((y : Int) = 0))) := hos.nxA (by omega)
                      have htl := text_le (nxA s was (decide ((y : Int) = 0)))
                      have hCC : nxC s was (decide ((y : Int) = 0)) = if ((nxA s was (decide ((y : Int) = 0))).text' 25).e ≠ 0 then (nxA s was (decide ((y : Int) = 0))).text' 25 else if nxBad s was (decide ((y : Int) = 0)) then ((nxA s was (decide ((y : Int) = 0))).text' 25).failed 2 else (nxA s was (decide ((y : Int) = 0))).text' 25 := rfl
                      have hTT : nxT s was (decide ((y : Int) = 0)) = if ((nxA s was (decide ((y : Int) = 0))).text' 25).e ≠ 0 then [] else nxX s was (decide ((y : Int) = 0)) := rfl
                      have hXX : nxX s was (decide ((y : Int) = 0)) = was.take (nxN s was (decide ((y : Int) = 0))) ++ (nxA s was (decide ((y : Int) = 0))).text 25 := rfl
                      have hbb : ∀ q, (((nxA s was (decide ((y : Int) = 0))).text' 25).failed q).b = pt := fun q => by rw [Cs.failed_b, Cs.text'_b, hnxb, hsb2]
                      refine vc_seq ?_
                      refine vc_region ?_
                      refine vl_det (det_move rfl) rfl ?_
                      refine vl_call co92 rfl (rctext_d hoA (by rw [hnxb, hsb2]; exact (by first | (exact Bor.own (by repeat (first | exact List.Mem.head _ | apply List.Mem.tail))) | (repeat (first | assumption | apply Bor.cons)))) (most := 25) (by omega) (by omega)) rfl ?_
                      rintro _ _ ⟨rfl, hLL⟩
                      obtain rfl := hLL.symm
                      refine vl_det (det_assign rfl) rfl ?_
                      refine vl_end [(0, _), (7, _), (8, _), (9, _), (11, _), (12, _), (14, _), (15, _), (16, _), (17, _), (18, _)] ⟨rfl, rfl, rfl, rfl, rfl, rfl, rfl, rfl, rfl, rfl, rfl, trivial⟩ ?_
                      refine then_next ?_
                      refine vc_seq ?_
                      refine vc_seq ?_
                      refine vc_region ?_
                      refine vl_det (det_move rfl) rfl ?_
                      refine vl_det (det_nilCheck rfl) rfl ?_
                      refine vl_det (det_fieldAddr_ Try.underlying135 rfl (by kernel_rfl) rfl rfl) rfl ?_
                      refine vl_det (det_load_blk (by kernel_rfl) rfl (by repeat (first | exact .hd | apply Sel.tl)) rfl) rfl ?_
                      refine vl_det (det_neq rfl rfl) rfl ?_
                      refine vl_end [(0, _), (7, _), (8, _), (9, _), (11, _), (12, _), (14, _), (15, _), (16, _), (17, _), (18, _), (114, _)] ⟨rfl, rfl, rfl, rfl, rfl, rfl, rfl, rfl, rfl, rfl, rfl, rfl, trivial⟩ ?_
                      refine then_next ?_
                      refine vc_decideU rfl (fun h114 => ?_) (fun h114 => ?_)
                      · skip
                        rw [hCC, if_pos h114, if_pos h114] at hF
                        rw [← hF] at hB
                        rw [if_pos h114] at hB
                        have hz2 := hR1 (by rw [← hB]; exact h114)
                        rw [← hB] at hz2
                        refine vc_seq ?_
                        refine vq_region (by kernel_rfl) (by kernel_rfl) ?_
                        refine vq_det (det_move rfl) rfl ?_
                        refine vq_det (det_nilCheck rfl) rfl ?_
                        refine vq_det (det_fieldAddr_ Try.underlying135 rfl (by kernel_rfl) rfl rfl) rfl ?_
                        refine vq_det (det_load_blk (by kernel_rfl) rfl (by repeat (first | exact .hd | apply Sel.tl)) rfl) rfl ?_
                        refine vq_det (det_assign rfl) rfl ?_
                        refine vq_det (det_assign rfl) rfl ?_
                        refine vq_det (det_assign rfl) rfl ?_
                        refine vq_end [(4, _), (5, _), (6, _)] ⟨rfl, rfl, rfl, trivial⟩ ?_
                        refine then_next ?_
                        refine vc_ret ?_
                        refine then_ret ?_
                        refine in_ret ?_
                        refine then_ret ?_
                        refine loop_ret ?_
                        refine in_ret ?_
                        refine then_ret ?_
                        refine in_ret ?_
                        refine then_ret ?_
                        refine loop_ret ?_
                        refine in_ret ?_
                        refine then_ret ?_
                        rw [hz2]
                        refine ret_nil_row 9 1 none ?_
                        refine ret_wk (L' := .own 9 1 none 0 0 [] :: F) (.cons (.skip (.skip (.skip (.skip (.skip (.skip (.refl _)))))))) ?_
                        refine ret3_ rfl rfl rfl rfl ?_
                        exact rd16_err rfl
                      · skip
                        rw [if_neg h114] at hCC hTT
                        obtain ⟨X, hX⟩ : ∃ X, X = nxX s was (decide ((y : Int) = 0)) := ⟨_, rfl⟩
                        have hBad := nxBad_iff (s := s) (O := O) (k := y) (X := X) (by rw [← hwas]; exact hX)
                        rw [← hwas] at hBad
                        rw [← hX] at hTT hXX
                        have hXl : X.length ≤ 50 := by rw [hXX, List.length_append, List.length_take]; omega
                        refine vc_skip ?_
                        refine then_next ?_
                        refine vc_seq ?_
                        refine vc_region ?_
                        refine vl_det (det_move rfl) rfl ?_
                        refine vl_det (det_move rfl) rfl ?_
                        refine vl_det (det_str_hi (i := nxN s was (decide ((y : Int) = 0))) Try.underlying9 rfl rfl rfl hnl) rfl ?_
                        refine vl_det (det_move rfl) rfl ?_
                        refine vl_det (det_s_add (s := was.take (nxN s was (decide ((y : Int) = 0)))) (r := (nxA s was (decide ((y : Int) = 0))).text 25) rfl rfl (by simp only [List.length_take]; omega)) rfl ?_
                        rw [← hXX]
                        refine vl_det (det_assign rfl) rfl ?_
                        refine vl_end [(0, _), (7, _), (8, _), (9, _), (11, _), (12, _), (14, _), (15, _), (16, _), (17, _), (18, _), (19, _)] ⟨rfl, rfl, rfl, rfl, rfl, rfl, rfl, rfl, rfl, rfl, rfl, rfl, trivial⟩ ?_
                        refine then_next ?_
                        refine vc_seq ?_
                        refine vc_seq ?_
                        refine vc_region ?_
                        refine vl_cut 28 151 [(0, _), (7, _), (8, _), (9, _), (11, _), (12, _), (14, _), (15, _), (19, _)] (nxBad s was (decide ((y : Int) = 0))) ⟨rfl, rfl, rfl, rfl, rfl, rfl, rfl, rfl, rfl, trivial⟩ ?_ ?_
                        · skip
                          refine vl_det (det_move rfl) rfl ?_
                          refine vl_det (det_s_eql rfl rfl) rfl ?_
                          refine vl_det (det_move rfl) rfl ?_
                          refine vl_guardn rfl rfl rfl (fun h126 => ?_) (fun h126 => ?_)
                          · skip
                            refine vl_det (det_move rfl) rfl ?_
                            refine vl_guard_t rfl rfl ?_
                            refine vl_det (det_len_s Try.underlying9 rfl) rfl ?_
                            refine vl_guard_t rfl rfl ?_
                            refine vl_det (det_gtr rfl rfl) rfl ?_
                            refine vl_det (det_pick_f rfl rfl) rfl ?_
                            refine vl_det (det_move rfl) rfl ?_
                            refine vl_guardn rfl rfl rfl (fun h131 => ?_) (fun h131 => ?_)
                            · skip
                              refine vl_det (det_move rfl) rfl ?_
                              refine vl_guard_t rfl rfl ?_
                              refine vl_det (det_len_sl Try.underlying26 rfl) rfl ?_
                              refine vl_guard_t rfl rfl ?_
                              refine vl_det (det_gtr rfl rfl) rfl ?_
                              refine vl_guard_t rfl rfl ?_
                              refine vl_det (det_move rfl) rfl ?_
                              refine vl_guardp rfl rfl rfl (fun h135 => ?_) (fun h135 => ?_)
                              · skip
                                refine vl_det (det_move rfl) rfl ?_
                                refine vl_guard_t rfl rfl ?_
                                refine vl_det (det_move rfl) rfl ?_
                                refine vl_guard_t rfl rfl ?_
                                refine vl_det (det_s_leqD rfl rfl) rfl ?_
                                refine vl_guard_t rfl rfl ?_
                                refine vl_det (det_pick_t rfl rfl) rfl ?_
                                refine vl_det (det_pick_f rfl rfl) rfl ?_
                                refine vl_det (det_move rfl) rfl ?_
                                refine vl_guardn rfl rfl rfl (fun h141 => ?_) (fun h141 => ?_)
                                · skip
                                  refine vl_det (det_move rfl) rfl ?_
                                  refine vl_guard_t rfl rfl ?_
                                  refine vl_det (det_gtr rfl rfl) rfl ?_
                                  refine vl_guard_t rfl rfl ?_
                                  refine vl_det (det_move rfl) rfl ?_
                                  refine vl_guardp rfl rfl rfl (fun h144 => ?_) (fun h144 => ?_)
                                  · skip
                                    refine vl_det (det_move rfl) rfl ?_
                                    refine vl_guard_t rfl rfl ?_
                                    refine vl_det (det_move rfl) rfl ?_
                                    refine vl_guard_t rfl rfl ?_
                                    refine vl_call co74 rfl (rlike_d was X (by omega)) rfl ?_
                                    rintro _ _ ⟨rfl, hLL⟩
                                    obtain rfl := hLL.symm
                                    refine vl_guard_t rfl rfl ?_
                                    refine vl_det (det_move rfl) rfl ?_
                                    refine vl_guard_t rfl rfl ?_
                                    refine vl_det (det_neq rfl rfl) rfl ?_
                                    refine vl_guard_t rfl rfl ?_
                                    refine vl_det (det_pick_t rfl rfl) rfl ?_
                                    refine vl_det (det_pick_f rfl rfl) rfl ?_
                                    exact vl_cut_end ⟨rfl, rfl, rfl, rfl, rfl, rfl, rfl, rfl, rfl, trivial⟩ (by first | rfl | exact bool_to_t (by first | exact hBad.2 (.inl (by assumption)) | exact hBad.2 (.inr (.inl (by omega))) | exact hBad.2 (.inr (.inr (.inl ⟨by omega, by assumption⟩))) | exact fun h => (hBad.1 h).elim (fun q => absurd q (by assumption)) fun q => q.elim (fun q => by omega) fun q => q.elim (fun q => by first | omega | exact absurd q.2 (by assumption)) fun q => by omega | exact ⟨fun h => hBad.2 (.inr (.inr (.inr ⟨by omega, by omega⟩))), fun h => (hBad.1 h).elim (fun q => absurd q (by assumption)) fun q => q.elim (fun q => by omega) fun q => q.elim (fun q => by first | omega | exact absurd q.2 (by assumption)) fun q => by omega⟩) | exact bool_to_f (by first | exact hBad.2 (.inl (by assumption)) | exact hBad.2 (.inr (.inl (by omega))) | exact hBad.2 (.inr (.inr (.inl ⟨by omega, by assumption⟩))) | exact fun h => (hBad.1 h).elim (fun q => absurd q (by assumption)) fun q => q.elim (fun q => by omega) fun q => q.elim (fun q => by first | omega | exact absurd q.2 (by assumption)) fun q => by omega | exact ⟨fun h => hBad.2 (.inr (.inr (.inr ⟨by omega, by omega⟩))), fun h => (hBad.1 h).elim (fun q => absurd q (by assumption)) fun q => q.elim (fun q => by omega) fun q => q.elim (fun q => by first | omega | exact absurd q.2 (by assumption)) fun q => by omega⟩) | exact bool_to (by first | exact hBad.2 (.inl (by assumption)) | exact hBad.2 (.inr (.inl (by omega))) | exact hBad.2 (.inr (.inr (.inl ⟨by omega, by assumption⟩))) | exact fun h => (hBad.1 h).elim (fun q => absurd q (by assumption)) fun q => q.elim (fun q => by omega) fun q => q.elim (fun q => by first | omega | exact absurd q.2 (by assumption)) fun q => by omega | exact ⟨fun h => hBad.2 (.inr (.inr (.inr ⟨by omega, by omega⟩))), fun h => (hBad.1 h).elim (fun q => absurd q (by assumption)) fun q => q.elim (fun q => by omega) fun q => q.elim (fun q => by first | omega | exact absurd q.2 (by assumption)) fun q => by omega⟩) | exact bool_to_b (by first | exact hBad.2 (.inl (by assumption)) | exact hBad.2 (.inr (.inl (by omega))) | exact hBad.2 (.inr (.inr (.inl ⟨by omega, by assumption⟩))) | exact fun h => (hBad.1 h).elim (fun q => absurd q (by assumption)) fun q => q.elim (fun q => by omega) fun q => q.elim (fun q => by first | omega | exact absurd q.2 (by assumption)) fun q => by omega | exact ⟨fun h => hBad.2 (.inr (.inr (.inr ⟨by omega, by omega⟩))), fun h => (hBad.1 h).elim (fun q => absurd q (by assumption)) fun q => q.elim (fun q => by omega) fun q => q.elim (fun q => by first | omega | exact absurd q.2 (by assumption)) fun q => by omega⟩))
                                  · skip
                                    refine vl_guard_f rfl rfl rfl rfl ?_
                                    refine vl_guard_f rfl rfl rfl rfl ?_
                                    refine vl_guard_f rfl rfl rfl rfl ?_
                                    refine vl_guard_f rfl rfl rfl rfl ?_
                                    refine vl_guard_t rfl rfl ?_
                                    refine vl_det (det_pick_f rfl rfl) rfl ?_
                                    refine vl_det (det_pick_f rfl rfl) rfl ?_
                                    exact vl_cut_end ⟨rfl, rfl, rfl, rfl, rfl, rfl, rfl, rfl, rfl, trivial⟩ (by first | rfl | exact bool_to_t (by first | exact hBad.2 (.inl (by assumption)) | exact hBad.2 (.inr (.inl (by omega))) | exact hBad.2 (.inr (.inr (.inl ⟨by omega, by assumption⟩))) | exact fun h => (hBad.1 h).elim (fun q => absurd q (by assumption)) fun q => q.elim (fun q => by omega) fun q => q.elim (fun q => by first | omega | exact absurd q.2 (by assumption)) fun q => by omega | exact ⟨fun h => hBad.2 (.inr (.inr (.inr ⟨by omega, by omega⟩))), fun h => (hBad.1 h).elim (fun q => absurd q (by assumption)) fun q => q.elim (fun q => by omega) fun q => q.elim (fun q => by first | omega | exact absurd q.2 (by assumption)) fun q => by omega⟩) | exact bool_to_f (by first | exact hBad.2 (.inl (by assumption)) | exact hBad.2 (.inr (.inl (by omega))) | exact hBad.2 (.inr (.inr (.inl ⟨by omega, by assumption⟩))) | exact fun h => (hBad.1 h).elim (fun q => absurd q (by assumption)) fun q => q.elim (fun q => by omega) fun q => q.elim (fun q => by first | omega | exact absurd q.2 (by assumption)) fun q => by omega | exact ⟨fun h => hBad.2 (.inr (.inr (.inr ⟨by omega, by omega⟩))), fun h => (hBad.1 h).elim (fun q => absurd q (by assumption)) fun q => q.elim (fun q => by omega) fun q => q.elim (fun q => by first | omega | exact absurd q.2 (by assumption)) fun q => by omega⟩) | exact bool_to (by first | exact hBad.2 (.inl (by assumption)) | exact hBad.2 (.inr (.inl (by omega))) | exact hBad.2 (.inr (.inr (.inl ⟨by omega, by assumption⟩))) | exact fun h => (hBad.1 h).elim (fun q => absurd q (by assumption)) fun q => q.elim (fun q => by omega) fun q => q.elim (fun q => by first | omega | exact absurd q.2 (by assumption)) fun q => by omega | exact ⟨fun h => hBad.2 (.inr (.inr (.inr ⟨by omega, by omega⟩))), fun h => (hBad.1 h).elim (fun q => absurd q (by assumption)) fun q => q.elim (fun q => by omega) fun q => q.elim (fun q => by first | omega | exact absurd q.2 (by assumption)) fun q => by omega⟩) | exact bool_to_b (by first | exact hBad.2 (.inl (by assumption)) | exact hBad.2 (.inr (.inl (by omega))) | exact hBad.2 (.inr (.inr (.inl ⟨by omega, by assumption⟩))) | exact fun h => (hBad.1 h).elim (fun q => absurd q (by assumption)) fun q => q.elim (fun q => by omega) fun q => q.elim (fun q => by first | omega | exact absurd q.2 (by assumption)) fun q => by omega | exact ⟨fun h => hBad.2 (.inr (.inr (.inr ⟨by omega, by omega⟩))), fun h => (hBad.1 h).elim (fun q => absurd q (by assumption)) fun q => q.elim (fun q => by omega) fun q => q.elim (fun q => by first | omega | exact absurd q.2 (by assumption)) fun q => by omega⟩))
                                · skip
                                  refine vl_guard_f rfl rfl rfl rfl ?_
                                  refine vl_guard_f rfl rfl rfl rfl ?_
                                  refine vl_guard_u rfl rfl rfl ?_
                                  refine vl_guard_u rfl rfl rfl ?_
                                  refine vl_guard_u rfl rfl rfl ?_
                                  refine vl_guard_u rfl rfl rfl ?_
                                  refine vl_guard_u rfl rfl rfl ?_
                                  refine vl_guard_f rfl rfl rfl rfl ?_
                                  refine vl_det (det_pick_t rfl rfl) rfl ?_
                                  exact vl_cut_end ⟨rfl, rfl, rfl, rfl, rfl, rfl, rfl, rfl, rfl, trivial⟩ (by first | rfl | exact bool_to_t (by first | exact hBad.2 (.inl (by assumption)) | exact hBad.2 (.inr (.inl (by omega))) | exact hBad.2 (.inr (.inr (.inl ⟨by omega, by assumption⟩))) | exact fun h => (hBad.1 h).elim (fun q => absurd q (by assumption)) fun q => q.elim (fun q => by omega) fun q => q.elim (fun q => by first | omega | exact absurd q.2 (by assumption)) fun q => by omega | exact ⟨fun h => hBad.2 (.inr (.inr (.inr ⟨by omega, by omega⟩))), fun h => (hBad.1 h).elim (fun q => absurd q (by assumption)) fun q => q.elim (fun q => by omega) fun q => q.elim (fun q => by first | omega | exact absurd q.2 (by assumption)) fun q => by omega⟩) | exact bool_to_f (by first | exact hBad.2 (.inl (by assumption)) | exact hBad.2 (.inr (.inl (by omega))) | exact hBad.2 (.inr (.inr (.inl ⟨by omega, by assumption⟩))) | exact fun h => (hBad.1 h).elim (fun q => absurd q (by assumption)) fun q => q.elim (fun q => by omega) fun q => q.elim (fun q => by first | omega | exact absurd q.2 (by assumption)) fun q => by omega | exact ⟨fun h => hBad.2 (.inr (.inr (.inr ⟨by omega, by omega⟩))), fun h => (hBad.1 h).elim (fun q => absurd q (by assumption)) fun q => q.elim (fun q => by omega) fun q => q.elim (fun q => by first | omega | exact absurd q.2 (by assumption)) fun q => by omega⟩) | exact bool_to (by first | exact hBad.2 (.inl (by assumption)) | exact hBad.2 (.inr (.inl (by omega))) | exact hBad.2 (.inr (.inr (.inl ⟨by omega, by assumption⟩))) | exact fun h => (hBad.1 h).elim (fun q => absurd q (by assumption)) fun q => q.elim (fun q => by omega) fun q => q.elim (fun q => by first | omega | exact absurd q.2 (by assumption)) fun q => by omega | exact ⟨fun h => hBad.2 (.inr (.inr (.inr ⟨by omega, by omega⟩))), fun h => (hBad.1 h).elim (fun q => absurd q (by assumption)) fun q => q.elim (fun q => by omega) fun q => q.elim (fun q => by first | omega | exact absurd q.2 (by assumption)) fun q => by omega⟩) | exact bool_to_b (by first | exact hBad.2 (.inl (by assumption)) | exact hBad.2 (.inr (.inl (by omega))) | exact hBad.2 (.inr (.inr (.inl ⟨by omega, by assumption⟩))) | exact fun h => (hBad.1 h).elim (fun q => absurd q (by assumption)) fun q => q.elim (fun q => by omega) fun q => q.elim (fun q => by first | omega | exact absurd q.2 (by assumption)) fun q => by omega | exact ⟨fun h => hBad.2 (.inr (.inr (.inr ⟨by omega, by omega⟩))), fun h => (hBad.1 h).elim (fun q => absurd q (by assumption)) fun q => q.elim (fun q => by omega) fun q => q.elim (fun q => by first | omega | exact absurd q.2 (by assumption)) fun q => by omega⟩))
                              · skip
                                refine vl_guard_f rfl rfl rfl rfl ?_
                                refine vl_guard_f rfl rfl rfl rfl ?_
                                refine vl_guard_t rfl rfl ?_
                                refine vl_det (det_pick_f rfl rfl) rfl ?_
                                refine vl_det (det_pick_f rfl rfl) rfl ?_
                                refine vl_det (det_move rfl) rfl ?_
                                refine vl_guard_t rfl rfl ?_
                                refine vl_det (det_move rfl) rfl ?_
                                refine vl_guard_t rfl rfl ?_
                                refine vl_det (det_gtr rfl rfl) rfl ?_
                                refine vl_guard_t rfl rfl ?_
                                refine vl_det (det_move rfl) rfl ?_
                                refine vl_guardp rfl rfl rfl (fun h144 => ?_) (fun h144 => ?_)
                                · skip
                                  refine vl_det (det_move rfl) rfl ?_
                                  refine vl_guard_t rfl rfl ?_
                                  refine vl_det (det_move rfl) rfl ?_
                                  refine vl_guard_t rfl rfl ?_
                                  refine vl_call co74 rfl (rlike_d was X (by omega)) rfl ?_
                                  rintro _ _ ⟨rfl, hLL⟩
                                  obtain rfl := hLL.symm
                                  refine vl_guard_t rfl rfl ?_
                                  refine vl_det (det_move rfl) rfl ?_
                                  refine vl_guard_t rfl rfl ?_
                                  refine vl_det (det_neq rfl rfl) rfl ?_
                                  refine vl_guard_t rfl rfl ?_
                                  refine vl_det (det_pick_t rfl rfl) rfl ?_
                                  refine vl_det (det_pick_f rfl rfl) rfl ?_
                                  exact vl_cut_end ⟨rfl, rfl, rfl, rfl, rfl, rfl, rfl, rfl, rfl, trivial⟩ (by first | rfl | exact bool_to_t (by first | exact hBad.2 (.inl (by assumption)) | exact hBad.2 (.inr (.inl (by omega))) | exact hBad.2 (.inr (.inr (.inl ⟨by omega, by assumption⟩))) | exact fun h => (hBad.1 h).elim (fun q => absurd q (by assumption)) fun q => q.elim (fun q => by omega) fun q => q.elim (fun q => by first | omega | exact absurd q.2 (by assumption)) fun q => by omega | exact ⟨fun h => hBad.2 (.inr (.inr (.inr ⟨by omega, by omega⟩))), fun h => (hBad.1 h).elim (fun q => absurd q (by assumption)) fun q => q.elim (fun q => by omega) fun q => q.elim (fun q => by first | omega | exact absurd q.2 (by assumption)) fun q => by omega⟩) | exact bool_to_f (by first | exact hBad.2 (.inl (by assumption)) | exact hBad.2 (.inr (.inl (by omega))) | exact hBad.2 (.inr (.inr (.inl ⟨by omega, by assumption⟩))) | exact fun h => (hBad.1 h).elim (fun q => absurd q (by assumption)) fun q => q.elim (fun q => by omega) fun q => q.elim (fun q => by first | omega | exact absurd q.2 (by assumption)) fun q => by omega | exact ⟨fun h => hBad.2 (.inr (.inr (.inr ⟨by omega, by omega⟩))), fun h => (hBad.1 h).elim (fun q => absurd q (by assumption)) fun q => q.elim (fun q => by omega) fun q => q.elim (fun q => by first | omega | exact absurd q.2 (by assumption)) fun q => by omega⟩) | exact bool_to (by first | exact hBad.2 (.inl (by assumption)) | exact hBad.2 (.inr (.inl (by omega))) | exact hBad.2 (.inr (.inr (.inl ⟨by omega, by assumption⟩))) | exact fun h => (hBad.1 h).elim (fun q => absurd q (by assumption)) fun q => q.elim (fun q => by omega) fun q => q.elim (fun q => by first | omega | exact absurd q.2 (by assumption)) fun q => by omega | exact ⟨fun h => hBad.2 (.inr (.inr (.inr ⟨by omega, by omega⟩))), fun h => (hBad.1 h).elim (fun q => absurd q (by assumption)) fun q => q.elim (fun q => by omega) fun q => q.elim (fun q => by first | omega | exact absurd q.2 (by assumption)) fun q => by omega⟩) | exact bool_to_b (by first | exact hBad.2 (.inl (by assumption)) | exact hBad.2 (.inr (.inl (by omega))) | exact hBad.2 (.inr (.inr (.inl ⟨by omega, by assumption⟩))) | exact fun h => (hBad.1 h).elim (fun q => absurd q (by assumption)) fun q => q.elim (fun q => by omega) fun q => q.elim (fun q => by first | omega | exact absurd q.2 (by assumption)) fun q => by omega | exact ⟨fun h => hBad.2 (.inr (.inr (.inr ⟨by omega, by omega⟩))), fun h => (hBad.1 h).elim (fun q => absurd q (by assumption)) fun q => q.elim (fun q => by omega) fun q => q.elim (fun q => by first | omega | exact absurd q.2 (by assumption)) fun q => by omega⟩))
                                · skip
                                  refine vl_guard_f rfl rfl rfl rfl ?_
                                  refine vl_guard_f rfl rfl rfl rfl ?_
                                  refine vl_guard_f rfl rfl rfl rfl ?_
                                  refine vl_guard_f rfl rfl rfl rfl ?_
                                  refine vl_guard_t rfl rfl ?_
                                  refine vl_det (det_pick_f rfl rfl) rfl ?_
                                  refine vl_det (det_pick_f rfl rfl) rfl ?_
                                  exact vl_cut_end ⟨rfl, rfl, rfl, rfl, rfl, rfl, rfl, rfl, rfl, trivial⟩ (by first | rfl | exact bool_to_t (by first | exact hBad.2 (.inl (by assumption)) | exact hBad.2 (.inr (.inl (by omega))) | exact hBad.2 (.inr (.inr (.inl ⟨by omega, by assumption⟩))) | exact fun h => (hBad.1 h).elim (fun q => absurd q (by assumption)) fun q => q.elim (fun q => by omega) fun q => q.elim (fun q => by first | omega | exact absurd q.2 (by assumption)) fun q => by omega | exact ⟨fun h => hBad.2 (.inr (.inr (.inr ⟨by omega, by omega⟩))), fun h => (hBad.1 h).elim (fun q => absurd q (by assumption)) fun q => q.elim (fun q => by omega) fun q => q.elim (fun q => by first | omega | exact absurd q.2 (by assumption)) fun q => by omega⟩) | exact bool_to_f (by first | exact hBad.2 (.inl (by assumption)) | exact hBad.2 (.inr (.inl (by omega))) | exact hBad.2 (.inr (.inr (.inl ⟨by omega, by assumption⟩))) | exact fun h => (hBad.1 h).elim (fun q => absurd q (by assumption)) fun q => q.elim (fun q => by omega) fun q => q.elim (fun q => by first | omega | exact absurd q.2 (by assumption)) fun q => by omega | exact ⟨fun h => hBad.2 (.inr (.inr (.inr ⟨by omega, by omega⟩))), fun h => (hBad.1 h).elim (fun q => absurd q (by assumption)) fun q => q.elim (fun q => by omega) fun q => q.elim (fun q => by first | omega | exact absurd q.2 (by assumption)) fun q => by omega⟩) | exact bool_to (by first | exact hBad.2 (.inl (by assumption)) | exact hBad.2 (.inr (.inl (by omega))) | exact hBad.2 (.inr (.inr (.inl ⟨by omega, by assumption⟩))) | exact fun h => (hBad.1 h).elim (fun q => absurd q (by assumption)) fun q => q.elim (fun q => by omega) fun q => q.elim (fun q => by first | omega | exact absurd q.2 (by assumption)) fun q => by omega | exact ⟨fun h => hBad.2 (.inr (.inr (.inr ⟨by omega, by omega⟩))), fun h => (hBad.1 h).elim (fun q => absurd q (by assumption)) fun q => q.elim (fun q => by omega) fun q => q.elim (fun q => by first | omega | exact absurd q.2 (by assumption)) fun q => by omega⟩) | exact bool_to_b (by first | exact hBad.2 (.inl (by assumption)) | exact hBad.2 (.inr (.inl (by omega))) | exact hBad.2 (.inr (.inr (.inl ⟨by omega, by assumption⟩))) | exact fun h => (hBad.1 h).elim (fun q => absurd q (by assumption)) fun q => q.elim (fun q => by omega) fun q => q.elim (fun q => by first | omega | exact absurd q.2 (by assumption)) fun q => by omega | exact ⟨fun h => hBad.2 (.inr (.inr (.inr ⟨by omega, by omega⟩))), fun h => (hBad.1 h).elim (fun q => absurd q (by assumption)) fun q => q.elim (fun q => by omega) fun q => q.elim (fun q => by first | omega | exact absurd q.2 (by assumption)) fun q => by omega⟩))
                            · skip
                              refine vl_guard_f rfl rfl rfl rfl ?_
                              refine vl_guard_f rfl rfl rfl rfl ?_
                              refine vl_guard_f rfl rfl rfl rfl ?_
                              refine vl_guard_u rfl rfl rfl ?_
                              refine vl_guard_u rfl rfl rfl ?_
                              refine vl_guard_u rfl rfl rfl ?_
                              refine vl_guard_f rfl rfl rfl rfl ?_
                              refine vl_det (det_pick_t rfl rfl) rfl ?_
                              refine vl_det (det_move rfl) rfl ?_
                              refine vl_guard_f rfl rfl rfl rfl ?_
                              refine vl_guard_f rfl rfl rfl rfl ?_
                              refine vl_guard_f rfl rfl rfl rfl ?_
                              refine vl_guard_u rfl rfl rfl ?_
                              refine vl_guard_u rfl rfl rfl ?_
                              refine vl_guard_u rfl rfl rfl ?_
                              refine vl_guard_u rfl rfl rfl ?_
                              refine vl_guard_u rfl rfl rfl ?_
                              refine vl_guard_f rfl rfl rfl rfl ?_
                              refine vl_det (det_pick_t rfl rfl) rfl ?_
                              exact vl_cut_end ⟨rfl, rfl, rfl, rfl, rfl, rfl, rfl, rfl, rfl, trivial⟩ (by first | rfl | exact bool_to_t (by first | exact hBad.2 (.inl (by assumption)) | exact hBad.2 (.inr (.inl (by omega))) | exact hBad.2 (.inr (.inr (.inl ⟨by omega, by assumption⟩))) | exact fun h => (hBad.1 h).elim (fun q => absurd q (by assumption)) fun q => q.elim (fun q => by omega) fun q => q.elim (fun q => by first | omega | exact absurd q.2 (by assumption)) fun q => by omega | exact ⟨fun h => hBad.2 (.inr (.inr (.inr ⟨by omega, by omega⟩))), fun h => (hBad.1 h).elim (fun q => absurd q (by assumption)) fun q => q.elim (fun q => by omega) fun q => q.elim (fun q => by first | omega | exact absurd q.2 (by assumption)) fun q => by omega⟩) | exact bool_to_f (by first | exact hBad.2 (.inl (by assumption)) | exact hBad.2 (.inr (.inl (by omega))) | exact hBad.2 (.inr (.inr (.inl ⟨by omega, by assumption⟩))) | exact fun h => (hBad.1 h).elim (fun q => absurd q (by assumption)) fun q => q.elim (fun q => by omega) fun q => q.elim (fun q => by first | omega | exact absurd q.2 (by assumption)) fun q => by omega | exact ⟨fun h => hBad.2 (.inr (.inr (.inr ⟨by omega, by omega⟩))), fun h => (hBad.1 h).elim (fun q => absurd q (by assumption)) fun q => q.elim (fun q => by omega) fun q => q.elim (fun q => by first | omega | exact absurd q.2 (by assumption)) fun q => by omega⟩) | exact bool_to (by first | exact hBad.2 (.inl (by assumption)) | exact hBad.2 (.inr (.inl (by omega))) | exact hBad.2 (.inr (.inr (.inl ⟨by omega, by assumption⟩))) | exact fun h => (hBad.1 h).elim (fun q => absurd q (by assumption)) fun q => q.elim (fun q => by omega) fun q => q.elim (fun q => by first | omega | exact absurd q.2 (by assumption)) fun q => by omega | exact ⟨fun h => hBad.2 (.inr (.inr (.inr ⟨by omega, by omega⟩))), fun h => (hBad.1 h).elim (fun q => absurd q (by assumption)) fun q => q.elim (fun q => by omega) fun q => q.elim (fun q => by first | omega | exact absurd q.2 (by assumption)) fun q => by omega⟩) | exact bool_to_b (by first | exact hBad.2 (.inl (by assumption)) | exact hBad.2 (.inr (.inl (by omega))) | exact hBad.2 (.inr (.inr (.inl ⟨by omega, by assumption⟩))) | exact fun h => (hBad.1 h).elim (fun q => absurd q (by assumption)) fun q => q.elim (fun q => by omega) fun q => q.elim (fun q => by first | omega | exact absurd q.2 (by assumption)) fun q => by omega | exact ⟨fun h => hBad.2 (.inr (.inr (.inr ⟨by omega, by omega⟩))), fun h => (hBad.1 h).elim (fun q => absurd q (by assumption)) fun q => q.elim (fun q => by omega) fun q => q.elim (fun q => by first | omega | exact absurd q.2 (by assumption)) fun q => by omega⟩))
                          · skip
                            refine vl_guard_f rfl rfl rfl rfl ?_
                            refine vl_guard_f rfl rfl rfl rfl ?_
                            refine vl_det (det_pick_t rfl rfl) rfl ?_
                            refine vl_det (det_move rfl) rfl ?_
                            refine vl_guard_f rfl rfl rfl rfl ?_
                            refine vl_guard_f rfl rfl rfl rfl ?_
                            refine vl_guard_f rfl rfl rfl rfl ?_
                            refine vl_guard_f rfl rfl rfl rfl ?_
                            refine vl_guard_u rfl rfl rfl ?_
                            refine vl_guard_u rfl rfl rfl ?_
                            refine vl_guard_u rfl rfl rfl ?_
                            refine vl_guard_f rfl rfl rfl rfl ?_
                            refine vl_det (det_pick_t rfl rfl) rfl ?_
                            refine vl_det (det_move rfl) rfl ?_
                            refine vl_guard_f rfl rfl rfl rfl ?_
                            refine vl_guard_f rfl rfl rfl rfl ?_
                            refine vl_guard_f rfl rfl rfl rfl ?_
                            refine vl_guard_u rfl rfl rfl ?_
                            refine vl_guard_u rfl rfl rfl ?_
                            refine vl_guard_u rfl rfl rfl ?_
                            refine vl_guard_u rfl rfl rfl ?_
                            refine vl_guard_u rfl rfl rfl ?_
                            refine vl_guard_f rfl rfl rfl rfl ?_
                            refine vl_det (det_pick_t rfl rfl) rfl ?_
                            exact vl_cut_end ⟨rfl, rfl, rfl, rfl, rfl, rfl, rfl, rfl, rfl, trivial⟩ (by first | rfl | exact bool_to_t (by first | exact hBad.2 (.inl (by assumption)) | exact hBad.2 (.inr (.inl (by omega))) | exact hBad.2 (.inr (.inr (.inl ⟨by omega, by assumption⟩))) | exact fun h => (hBad.1 h).elim (fun q => absurd q (by assumption)) fun q => q.elim (fun q => by omega) fun q => q.elim (fun q => by first | omega | exact absurd q.2 (by assumption)) fun q => by omega | exact ⟨fun h => hBad.2 (.inr (.inr (.inr ⟨by omega, by omega⟩))), fun h => (hBad.1 h).elim (fun q => absurd q (by assumption)) fun q => q.elim (fun q => by omega) fun q => q.elim (fun q => by first | omega | exact absurd q.2 (by assumption)) fun q => by omega⟩) | exact bool_to_f (by first | exact hBad.2 (.inl (by assumption)) | exact hBad.2 (.inr (.inl (by omega))) | exact hBad.2 (.inr (.inr (.inl ⟨by omega, by assumption⟩))) | exact fun h => (hBad.1 h).elim (fun q => absurd q (by assumption)) fun q => q.elim (fun q => by omega) fun q => q.elim (fun q => by first | omega | exact absurd q.2 (by assumption)) fun q => by omega | exact ⟨fun h => hBad.2 (.inr (.inr (.inr ⟨by omega, by omega⟩))), fun h => (hBad.1 h).elim (fun q => absurd q (by assumption)) fun q => q.elim (fun q => by omega) fun q => q.elim (fun q => by first | omega | exact absurd q.2 (by assumption)) fun q => by omega⟩) | exact bool_to (by first | exact hBad.2 (.inl (by assumption)) | exact hBad.2 (.inr (.inl (by omega))) | exact hBad.2 (.inr (.inr (.inl ⟨by omega, by assumption⟩))) | exact fun h => (hBad.1 h).elim (fun q => absurd q (by assumption)) fun q => q.elim (fun q => by omega) fun q => q.elim (fun q => by first | omega | exact absurd q.2 (by assumption)) fun q => by omega | exact ⟨fun h => hBad.2 (.inr (.inr (.inr ⟨by omega, by omega⟩))), fun h => (hBad.1 h).elim (fun q => absurd q (by assumption)) fun q => q.elim (fun q => by omega) fun q => q.elim (fun q => by first | omega | exact absurd q.2 (by assumption)) fun q => by omega⟩) | exact bool_to_b (by first | exact hBad.2 (.inl (by assumption)) | exact hBad.2 (.inr (.inl (by omega))) | exact hBad.2 (.inr (.inr (.inl ⟨by omega, by assumption⟩))) | exact fun h => (hBad.1 h).elim (fun q => absurd q (by assumption)) fun q => q.elim (fun q => by omega) fun q => q.elim (fun q => by first | omega | exact absurd q.2 (by assumption)) fun q => by omega | exact ⟨fun h => hBad.2 (.inr (.inr (.inr ⟨by omega, by omega⟩))), fun h => (hBad.1 h).elim (fun q => absurd q (by assumption)) fun q => q.elim (fun q => by omega) fun q => q.elim (fun q => by first | omega | exact absurd q.2 (by assumption)) fun q => by omega⟩))
                        · skip
                          refine vl_end [(0, _), (7, _), (8, _), (9, _), (11, _), (12, _), (14, _), (15, _), (19, _), (151, _)] ⟨rfl, rfl, rfl, rfl, rfl, rfl, rfl, rfl, rfl, rfl, trivial⟩ ?_
                          refine then_next ?_
                          refine vc_decideU rfl (fun h151 => ?_) (fun h151 => ?_)
                          · skip
                            rw [if_pos h151] at hCC
                            have hfe : (((nxA s was (decide ((y : Int) = 0))).text' 25).failed 2).e = 2 := by unfold Cs.failed; rw [if_pos (by simpa using h114)]
                            rw [hCC, if_pos (by rw [hfe]; decide), hfe] at hF
                            rw [← hF, if_pos (by decide)] at hB
                            have hz2 := hR1 (by rw [← hB]; exact (by decide : (2 : Int) ≠ 0))
                            rw [← hB] at hz2
                            refine vc_seq ?_
                            refine vc_region ?_
                            refine vl_det (det_assign rfl) rfl ?_
                            refine vl_det (det_assign rfl) rfl ?_
                            refine vl_det (det_assign rfl) rfl ?_
                            refine vl_end [(4, _), (5, _), (6, _)] ⟨rfl, rfl, rfl, trivial⟩ ?_
                            refine then_next ?_
                            refine vc_ret ?_
                            refine then_ret ?_
                            refine in_ret ?_
                            refine then_ret ?_
                            refine loop_ret ?_
                            refine in_ret ?_
                            refine then_ret ?_
                            refine in_ret ?_
                            refine then_ret ?_
                            refine loop_ret ?_
                            refine in_ret ?_
                            refine then_ret ?_
                            rw [hz2]
                            refine ret_nil_row 9 1 none ?_
                            refine ret_wk (L' := .own 9 1 none 0 0 [] :: F) (.cons (.skip (.skip (.skip (.skip (.skip (.skip (.refl _)))))))) ?_
                            refine ret3_ rfl rfl rfl rfl ?_
                            exact rd16_err rfl
                          · skip
                            rw [if_neg h151] at hCC
                            rw [hCC, hTT, if_neg h114] at hF
                            have hX25 : X.length ≤ 25 := Classical.byContradiction fun h => h151 (hBad.2 (.inr (.inl (by omega))))
                            have hel : O.length + 1 = (O ++ [X]).length := by simp
                            refine vc_skip ?_
                            refine then_next ?_
                            refine vc_region ?_
                            refine vl_det (det_move rfl) rfl ?_
                            refine vl_det (det_move rfl) rfl ?_
                            refine vl_push slT26 rfl rfl rfl rfl rfl (fun _ => rfl) (by repeat (first | exact .hd | apply Sel.tl)) (by omega) (by omega) ?_
                            intro _ A155 c155
                            refine vl_det (det_assign rfl) rfl ?_
                            refine vl_end [(0, _), (7, _), (8, _), (9, _), (11, _), (12, _), (14, _), (15, _)] ⟨rfl, rfl, rfl, rfl, rfl, rfl, rfl, rfl, trivial⟩ ?_
                            refine in_normal ?_
                            refine then_next ?_
                            refine vc_region ?_
                            refine vl_det (det_move rfl) rfl ?_
                            refine vl_det (det_add rfl rfl (w_i64 (by omega) (by omega))) rfl ?_
                            refine vl_det (det_assign rfl) rfl ?_
                            refine vl_end [(0, _), (7, _), (8, _), (9, _), (11, _), (12, _), (14, _), (15, _)] ⟨rfl, rfl, rfl, rfl, rfl, rfl, rfl, rfl, trivial⟩ ?_
                            refine in_loop_ ⟨_, by omega, y + 1, (nxA s was (decide ((y : Int) = 0))).text' 25, O ++ [X], A155, c155, ⟨by omega, hoA.text', by rw [Cs.text'_b, hnxb, hsb2], by simpa using h114, by simp; omega, hO25.snoc hX25, by rw [show M - (y + 1) = M' by omega, decide_eq_false (show ¬ ((y + 1 : Nat) : Int) = 0 by omega)]; exact hF⟩, rfl, ⟨(by first | rfl | exact int_to (by omega) | exact sl_to (by omega)), (by first | rfl | exact int_to (by omega) | exact sl_to (by omega)), (by first | rfl | exact int_to (by omega) | exact sl_to (by omega)), (by first | rfl | exact int_to (by omega) | exact sl_to (by omega)), (by first | rfl | exact int_to (by omega) | exact sl_to (by omega)), (by first | rfl | exact int_to (by omega) | exact sl_to (by omega)), (by first | rfl | exact int_to (by omega) | exact sl_to (by omega)), (by first | rfl | exact int_to (by omega) | exact sl_to (by omega)), trivial⟩, .cons (.cons (wk_own hel (by simp [strs]) (.refl _)))⟩
                · skip
                  have hyM : y = M := by omega
                  rw [show M - y = 0 by omega, fillF] at hF
                  have hel : (s.left : Int) = ((s.left : Nat) : Int) := rfl
                  refine vc_exit ?_
                  refine then_exit ?_
                  refine loop_exit ?_
                  refine in_eq ?_
                  refine then_next ?_
                  refine vc_seq ?_
                  refine vc_region ?_
                  refine vl_det (det_move rfl) rfl ?_
                  refine vl_call co93 rfl (rleft_d hos) rfl ?_
                  rintro _ _ ⟨rfl, hLL⟩
                  obtain rfl := hLL.symm
                  refine vl_det (det_gtr rfl rfl) rfl ?_
                  refine vl_end [(0, _), (7, _), (8, _), (9, _), (11, _), (12, _), (158, _)] ⟨rfl, rfl, rfl, rfl, rfl, rfl, rfl, trivial⟩ ?_
                  refine then_next ?_
                  refine vc_decideU rfl (fun h158 => ?_) (fun h158 => ?_)
                  · skip
                    have hee : s.end'.e = 2 := by unfold Cs.end'; rw [if_pos (by omega)]; unfold Cs.failed; rw [if_pos hse2]
                    rw [hee, if_pos (by decide)] at hF
                    rw [← hF, if_pos (by decide)] at hB
                    have hz2 := hR1 (by rw [← hB]; exact (by decide : (2 : Int) ≠ 0))
                    rw [← hB] at hz2
                    refine vc_seq ?_
                    refine vc_region ?_
                    refine vl_det (det_assign rfl) rfl ?_
                    refine vl_det (det_assign rfl) rfl ?_
                    refine vl_det (det_assign rfl) rfl ?_
                    refine vl_end [(4, _), (5, _), (6, _)] ⟨rfl, rfl, rfl, trivial⟩ ?_
                    refine then_next ?_
                    refine vc_ret ?_
                    refine in_ret ?_
                    refine then_ret ?_
                    refine loop_ret ?_
                    refine in_ret ?_
                    refine then_ret ?_
                    rw [hz2]
                    refine ret_nil_row 9 1 none ?_
                    refine ret_wk (L' := .own 9 1 none 0 0 [] :: F) (.cons (.skip (.skip (.skip (.skip (.skip (.skip (.refl _)))))))) ?_
                    refine ret3_ rfl rfl rfl rfl ?_
                    exact rd16_err rfl
                  · skip
                    have hee : s.end' = s := by unfold Cs.end'; rw [if_neg (by omega)]
                    rw [hee, if_neg (by simpa using hse2)] at hF
                    rw [← hF, if_neg (by simp)] at hB
                    refine vc_skip ?_
                    refine in_normal ?_
                    refine then_next ?_
                    refine vc_region ?_
                    refine vl_det (det_move rfl) rfl ?_
                    refine vl_det (det_add rfl rfl (w_i64 (by omega) (by omega))) rfl ?_
                    refine vl_det (det_assign rfl) rfl ?_
                    refine vl_end [(0, _), (7, _), (8, _), (9, _), (11, _), (12, _)] ⟨rfl, rfl, rfl, rfl, rfl, rfl, trivial⟩ ?_
                    refine in_loop_ ⟨_, by omega, i + 1, u.take' k, O, P2, p2, ⟨by omega, by omega, hou.take', by rw [Cs.take'_b]; exact hub, by simpa using h75, hO25, hB⟩, rfl, ⟨(by first | rfl | exact int_to (by omega) | exact sl_to (by omega)), (by first | rfl | exact int_to (by omega) | exact sl_to (by omega)), (by first | rfl | exact int_to (by omega) | exact sl_to (by omega)), (by first | rfl | exact int_to (by omega) | exact sl_to (by omega)), (by first | rfl | exact int_to (by omega) | exact sl_to (by omega)), (by first | rfl | exact int_to (by omega) | exact sl_to (by omega)), trivial⟩, (wu3 (wu3 (wu2 (wu2 (.skip (.skip (.refl _)))))))⟩
          · skip
            have hiS : i = S.length := by omega
            rw [List.drop_of_length_le (by omega), bodyF, if_neg (by simpa using hue)] at hB
            have hz2 := hR2 (by rw [← hB])
            rw [← hB] at hz2
            refine vc_exit ?_
            refine then_exit ?_
            refine loop_exit ?_
            refine in_eq ?_
            refine then_next ?_
            refine vc_seq ?_
            refine vq_region (by kernel_rfl) (by kernel_rfl) ?_
            refine vq_det (det_move rfl) rfl ?_
            refine vq_det (det_move rfl) rfl ?_
            refine vq_det (det_nilCheck rfl) rfl ?_
            refine vq_det (det_fieldAddr_ Try.underlying135 rfl (by kernel_rfl) rfl rfl) rfl ?_
            refine vq_det (det_load_blk (by kernel_rfl) rfl (by repeat (first | exact .hd | apply Sel.tl)) rfl) rfl ?_
            refine vq_det (det_assign rfl) rfl ?_
            refine vq_det (det_assign rfl) rfl ?_
            refine vq_det (det_assign rfl) rfl ?_
            refine vq_end [(4, _), (5, _), (6, _)] ⟨rfl, rfl, rfl, trivial⟩ ?_
            refine then_next ?_
            refine vc_ret ?_
            rw [hz2]
            refine ret_wk (L' := .own 9 1 P1 o.length p1 (strs o) :: F) (.skip (.skip (.cons (.skip (.refl _))))) ?_
            refine ret3_ rfl rfl rfl rfl ?_
            exact ⟨P1, p1, rfl, rfl⟩
theorem rread16_d {size : Int} {b : List UInt8} (hb : Bor B w0 F 1 (.slice A b.length c) b.length (bv b)) (hbl : b.length ≤ 1000000000) :
    Does Try.prog B w0 52 [.int .i64 size, .slice A b.length c] F (Rd16 (dictR size b) F) := by
  by_cases hE : size < 1 ∨ 64 < size
  · exact rread16_bad hE
  · obtain ⟨sz, rfl⟩ := Int.eq_ofNat_of_zero_le (show 0 ≤ size by omega)
    exact rread16_ok (by omega) (by omega) hb hbl
end Go.Proofs.Ytpamjobiohbibaa
