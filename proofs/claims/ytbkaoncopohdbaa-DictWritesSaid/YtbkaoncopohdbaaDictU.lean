/-
  The document's dictionaries: Write. Condition: at most 300 texts.
-/
import Derived.Test.YtbkaoncopohdbaaDictR
namespace Go.Proofs.Ytbkaoncopohdbaa
open Go.RowKit
set_option linter.unusedVariables false
set_option maxRecDepth 20000
variable {B : Nat} {w0 : World} {F : List Ch} {A A1 A2 : Option Addr} {n c c1 c2 g : Nat}
theorem rdwrite_bad {size : Int} {l : List Txt} (hb : Bor B w0 F 1 (.slice A l.length c) l.length (strs l)) (hl : l.length ≤ 1000000000000000) (hE : size < 1 ∨ 64 < size ∨ ¬ RisT l) :
    Does Try.prog B w0 12 [.int .i64 size, .slice A l.length c] F (fun r L => ∃ A' c', r = .tuple #[.slice A' 0 c', .int .i64 13] ∧ L = .own 5 1 A' 0 c' [] :: F) := by
  refine fn_walk Try.func12 90 rfl rfl rfl [(0, .int .i64 size), (1, .slice A l.length c)] ⟨⟨rfl, rfl⟩, ⟨rfl, rfl⟩, trivial⟩ ?_
  refine vc_seq ?_
  refine vc_region ?_
  refine vl_det (det_assign rfl) rfl ?_
  refine vl_det (det_assign rfl) rfl ?_
  refine vl_end [(0, _), (1, _)] ⟨rfl, rfl, trivial⟩ ?_
  refine then_next ?_
  refine vc_seq ?_
  refine vc_seq ?_
  refine vc_region ?_
  refine vl_cut 11 22 [(0, _), (1, _)] (size < 1 ∨ 64 < size ∨ ¬ RisT l) ⟨rfl, rfl, trivial⟩ ?_ ?_
  · skip
    refine vl_det (det_move rfl) rfl ?_
    refine vl_det (det_lss rfl rfl) rfl ?_
    refine vl_det (det_move rfl) rfl ?_
    refine vl_guardn rfl rfl rfl (fun h14 => ?_) (fun h14 => ?_)
    · skip
      refine vl_det (det_move rfl) rfl ?_
      refine vl_guard_t rfl rfl ?_
      refine vl_det (det_gtr rfl rfl) rfl ?_
      refine vl_det (det_pick_f rfl rfl) rfl ?_
      refine vl_det (det_move rfl) rfl ?_
      refine vl_guardn rfl rfl rfl (fun h18 => ?_) (fun h18 => ?_)
      · skip
        refine vl_det (det_move rfl) rfl ?_
        refine vl_guard_t rfl rfl ?_
        refine vl_call co21 rfl (rmayT_d hb hl) rfl ?_
        rintro _ _ ⟨rfl, hLL⟩
        obtain rfl := hLL.symm
        refine vl_guard_t rfl rfl ?_
        refine vl_det (det_notd rfl) rfl ?_
        refine vl_det (det_pick_f rfl rfl) rfl ?_
        exact vl_cut_end ⟨rfl, rfl, trivial⟩ (by first | rfl | exact bool_to_t (by first | exact .inl (by omega) | exact .inr (.inl (by omega)) | exact ⟨fun h => .inr (.inr h), fun h => by rcases h with h | h | h <;> first | omega | exact h⟩) | exact bool_to_f (by first | exact .inl (by omega) | exact .inr (.inl (by omega)) | exact ⟨fun h => .inr (.inr h), fun h => by rcases h with h | h | h <;> first | omega | exact h⟩) | exact bool_to (by first | exact .inl (by omega) | exact .inr (.inl (by omega)) | exact ⟨fun h => .inr (.inr h), fun h => by rcases h with h | h | h <;> first | omega | exact h⟩) | exact bool_to_b (by first | exact .inl (by omega) | exact .inr (.inl (by omega)) | exact ⟨fun h => .inr (.inr h), fun h => by rcases h with h | h | h <;> first | omega | exact h⟩))
      · skip
        refine vl_guard_f rfl rfl rfl rfl ?_
        refine vl_guard_f rfl rfl rfl rfl ?_
        refine vl_det (det_pick_t rfl rfl) rfl ?_
        exact vl_cut_end ⟨rfl, rfl, trivial⟩ (by first | rfl | exact bool_to_t (by first | exact .inl (by omega) | exact .inr (.inl (by omega)) | exact ⟨fun h => .inr (.inr h), fun h => by rcases h with h | h | h <;> first | omega | exact h⟩) | exact bool_to_f (by first | exact .inl (by omega) | exact .inr (.inl (by omega)) | exact ⟨fun h => .inr (.inr h), fun h => by rcases h with h | h | h <;> first | omega | exact h⟩) | exact bool_to (by first | exact .inl (by omega) | exact .inr (.inl (by omega)) | exact ⟨fun h => .inr (.inr h), fun h => by rcases h with h | h | h <;> first | omega | exact h⟩) | exact bool_to_b (by first | exact .inl (by omega) | exact .inr (.inl (by omega)) | exact ⟨fun h => .inr (.inr h), fun h => by rcases h with h | h | h <;> first | omega | exact h⟩))
    · skip
      refine vl_guard_f rfl rfl rfl rfl ?_
      refine vl_det (det_pick_t rfl rfl) rfl ?_
      refine vl_det (det_move rfl) rfl ?_
      refine vl_guard_f rfl rfl rfl rfl ?_
      refine vl_guard_f rfl rfl rfl rfl ?_
      refine vl_guard_f rfl rfl rfl rfl ?_
      refine vl_det (det_pick_t rfl rfl) rfl ?_
      exact vl_cut_end ⟨rfl, rfl, trivial⟩ (by first | rfl | exact bool_to_t (by first | exact .inl (by omega) | exact .inr (.inl (by omega)) | exact ⟨fun h => .inr (.inr h), fun h => by rcases h with h | h | h <;> first | omega | exact h⟩) | exact bool_to_f (by first | exact .inl (by omega) | exact .inr (.inl (by omega)) | exact ⟨fun h => .inr (.inr h), fun h => by rcases h with h | h | h <;> first | omega | exact h⟩) | exact bool_to (by first | exact .inl (by omega) | exact .inr (.inl (by omega)) | exact ⟨fun h => .inr (.inr h), fun h => by rcases h with h | h | h <;> first | omega | exact h⟩) | exact bool_to_b (by first | exact .inl (by omega) | exact .inr (.inl (by omega)) | exact ⟨fun h => .inr (.inr h), fun h => by rcases h with h | h | h <;> first | omega | exact h⟩))
  · skip
    refine vl_end [(0, _), (1, _), (22, _)] ⟨rfl, rfl, rfl, trivial⟩ ?_
    refine then_next ?_
    refine vc_decideU rfl (fun h22 => ?_) (fun h22 => ?_)
    · skip
      refine vc_seq ?_
      refine vc_region ?_
      refine vl_det (det_assign rfl) rfl ?_
      refine vl_det (det_assign rfl) rfl ?_
      refine vl_end [(4, _), (5, _)] ⟨rfl, rfl, trivial⟩ ?_
      refine then_next ?_
      refine vc_ret ?_
      refine then_ret ?_
      refine ret_nil_row 5 1 none ?_
      refine ret2 rfl rfl rfl ?_
      exact ⟨none, 0, rfl, rfl⟩
    · skip
      exfalso; exact h22 hE
theorem ck_get {l : List Txt} {sz i j : Nat} (h : j < (ck l sz i).length) : (ck l sz i).getD j [] = l.getD (i * sz + j) [] := by
  rw [ck_len] at h
  unfold chE at h
  unfold ck
  rw [List.getD_eq_getElem?_getD, List.getD_eq_getElem?_getD, List.getElem?_take, if_pos (by omega), List.getElem?_drop]
theorem rdwrite_ok {sz : Nat} {l : List Txt} (hb : Bor B w0 F 1 (.slice A l.length c) l.length (strs l)) (hs1 : 1 ≤ sz) (hs2 : sz ≤ 64) (hR : RisT l) :
    Does Try.prog B w0 12 [.int .i64 sz, .slice A l.length c] F (fun r L => ∃ A' c', r = .tuple #[.slice A' (dictB sz l).length c', .int .i64 0] ∧ L = .own 5 1 A' (dictB sz l).length c' (bv (dictB sz l)) :: F) := by
  have hlen := hR.2
  have h25 := hR.le
  have hnl : (encN l.length).length ≤ 10 := encN_len10 (by omega)
  have hNl : chN sz l.length ≤ 1048639 := by
    unfold chN
    exact Nat.le_trans (Nat.div_le_self _ _) (by omega)
  have e0 : (encN l.length ++ headT l sz (List.range 0)).length = (encN l.length).length := by simp [headT]
  refine fn_walk Try.func12 90 rfl rfl rfl [(0, .int .i64 sz), (1, .slice A l.length c)] ⟨⟨rfl, rfl⟩, ⟨rfl, rfl⟩, trivial⟩ ?_
  refine vc_seq ?_
  refine vc_region ?_
  refine vl_det (det_assign rfl) rfl ?_
  refine vl_det (det_assign rfl) rfl ?_
  refine vl_end [(0, _), (1, _)] ⟨rfl, rfl, trivial⟩ ?_
  refine then_next ?_
  refine vc_seq ?_
  refine vc_seq ?_
  refine vc_region ?_
  refine vl_cut 11 22 [(0, _), (1, _)] ((sz : Int) < 1 ∨ 64 < (sz : Int) ∨ ¬ RisT l) ⟨rfl, rfl, trivial⟩ ?_ ?_
  · skip
    refine vl_det (det_move rfl) rfl ?_
    refine vl_det (det_lss rfl rfl) rfl ?_
    refine vl_det (det_move rfl) rfl ?_
    refine vl_guardn rfl rfl rfl (fun h14 => ?_) (fun h14 => ?_)
    · skip
      refine vl_det (det_move rfl) rfl ?_
      refine vl_guard_t rfl rfl ?_
      refine vl_det (det_gtr rfl rfl) rfl ?_
      refine vl_det (det_pick_f rfl rfl) rfl ?_
      refine vl_det (det_move rfl) rfl ?_
      refine vl_guardn rfl rfl rfl (fun h18 => ?_) (fun h18 => ?_)
      · skip
        refine vl_det (det_move rfl) rfl ?_
        refine vl_guard_t rfl rfl ?_
        refine vl_call co21 rfl (rmayT_d hb (by omega)) rfl ?_
        rintro _ _ ⟨rfl, hLL⟩
        obtain rfl := hLL.symm
        refine vl_guard_t rfl rfl ?_
        refine vl_det (det_notd rfl) rfl ?_
        refine vl_det (det_pick_f rfl rfl) rfl ?_
        exact vl_cut_end ⟨rfl, rfl, trivial⟩ (by first | rfl | exact bool_to_t (by first | exact .inl (by omega) | exact .inr (.inl (by omega)) | exact ⟨fun h => .inr (.inr h), fun h => by rcases h with h | h | h <;> first | omega | exact h⟩) | exact bool_to_f (by first | exact .inl (by omega) | exact .inr (.inl (by omega)) | exact ⟨fun h => .inr (.inr h), fun h => by rcases h with h | h | h <;> first | omega | exact h⟩) | exact bool_to (by first | exact .inl (by omega) | exact .inr (.inl (by omega)) | exact ⟨fun h => .inr (.inr h), fun h => by rcases h with h | h | h <;> first | omega | exact h⟩) | exact bool_to_b (by first | exact .inl (by omega) | exact .inr (.inl (by omega)) | exact ⟨fun h => .inr (.inr h), fun h => by rcases h with h | h | h <;> first | omega | exact h⟩))
      · skip
        refine vl_guard_f rfl rfl rfl rfl ?_
        refine vl_guard_f rfl rfl rfl rfl ?_
        refine vl_det (det_pick_t rfl rfl) rfl ?_
        exact vl_cut_end ⟨rfl, rfl, trivial⟩ (by first | rfl | exact bool_to_t (by first | exact .inl (by omega) | exact .inr (.inl (by omega)) | exact ⟨fun h => .inr (.inr h), fun h => by rcases h with h | h | h <;> first | omega | exact h⟩) | exact bool_to_f (by first | exact .inl (by omega) | exact .inr (.inl (by omega)) | exact ⟨fun h => .inr (.inr h), fun h => by rcases h with h | h | h <;> first | omega | exact h⟩) | exact bool_to (by first | exact .inl (by omega) | exact .inr (.inl (by omega)) | exact ⟨fun h => .inr (.inr h), fun h => by rcases h with h | h | h <;> first | omega | exact h⟩) | exact bool_to_b (by first | exact .inl (by omega) | exact .inr (.inl (by omega)) | exact ⟨fun h => .inr (.inr h), fun h => by rcases h with h | h | h <;> first | omega | exact h⟩))
    · skip
      refine vl_guard_f rfl rfl rfl rfl ?_
      refine vl_det (det_pick_t rfl rfl) rfl ?_
      refine vl_det (det_move rfl) rfl ?_
      refine vl_guard_f rfl rfl rfl rfl ?_
      refine vl_guard_f rfl rfl rfl rfl ?_
      refine vl_guard_f rfl rfl rfl rfl ?_
      refine vl_det (det_pick_t rfl rfl) rfl ?_
      exact vl_cut_end ⟨rfl, rfl, trivial⟩ (by first | rfl | exact bool_to_t (by first | exact .inl (by omega) | exact .inr (.inl (by omega)) | exact ⟨fun h => .inr (.inr h), fun h => by rcases h with h | h | h <;> first | omega | exact h⟩) | exact bool_to_f (by first | exact .inl (by omega) | exact .inr (.inl (by omega)) | exact ⟨fun h => .inr (.inr h), fun h => by rcases h with h | h | h <;> first | omega | exact h⟩) | exact bool_to (by first | exact .inl (by omega) | exact .inr (.inl (by omega)) | exact ⟨fun h => .inr (.inr h), fun h => by rcases h with h | h | h <;> first | omega | exact h⟩) | exact bool_to_b (by first | exact .inl (by omega) | exact .inr (.inl (by omega)) | exact ⟨fun h => .inr (.inr h), fun h => by rcases h with h | h | h <;> first | omega | exact h⟩))
  · skip
    refine vl_end [(0, _), (1, _), (22, _)] ⟨rfl, rfl, rfl, trivial⟩ ?_
    refine then_next ?_
    refine vc_decideU rfl (fun h22 => ?_) (fun h22 => ?_)
    · skip
      exfalso; rcases h22 with h | h | h <;> first | omega | exact h hR
    · skip
      refine vc_skip ?_
      refine then_next ?_
      refine vc_seq ?_
      refine vc_region ?_
      refine vl_det (det_move rfl) rfl ?_
      refine vl_det (det_len_sl Try.underlying22 rfl) rfl ?_
      refine vl_det (det_conv Try.underlying3 Try.underlying54 rfl (w_u64 (by omega) (by omega))) rfl ?_
      refine vl_call co30 rfl (rnum_d l.length (by omega)) rfl ?_
      rintro _ _ ⟨A26, c26, rfl, hLL⟩
      obtain rfl := hLL.symm
      refine vl_det (det_assign rfl) rfl ?_
      refine vl_end [(0, _), (1, _), (6, _)] ⟨rfl, rfl, rfl, trivial⟩ ?_
      refine then_next ?_
      refine vc_seq ?_
      refine vc_nil_row 5 1 none ?_
      refine vc_region ?_
      refine vl_det (det_assign rfl) rfl ?_
      refine vl_end [(0, _), (1, _), (6, _), (7, _)] ⟨rfl, rfl, rfl, rfl, trivial⟩ ?_
      refine then_next ?_
      refine vc_seq ?_
      refine vc_seq ?_
      refine vc_region ?_
      refine vl_det (det_assign rfl) rfl ?_
      refine vl_end [(0, _), (1, _), (6, _), (7, _), (8, _)] ⟨rfl, rfl, rfl, rfl, rfl, trivial⟩ ?_
      refine then_next ?_
      refine vc_block ?_
      refine vc_loopJ (fun zf zL zm => ∃ (i q : Nat) (A6 A7 : Option Addr) (c6 c7 : Nat), (i ≤ chN sz l.length ∧ q = i * sz) ∧ chN sz l.length - i = zm ∧ Sub zf [(0, .int .i64 sz), (1, .slice A l.length c), (6, .slice A6 (encN l.length ++ headT l sz (List.range i)).length c6), (7, .slice A7 (bodyT l sz (List.range i)).length c7), (8, .int .i64 (q : Nat))] ∧ Wk zL (.own 5 1 A7 (bodyT l sz (List.range i)).length c7 (bv (bodyT l sz (List.range i))) :: .own 5 1 A6 (encN l.length ++ headT l sz (List.range i)).length c6 (bv (encN l.length ++ headT l sz (List.range i))) :: F)) _ ⟨0, 0, A26, none, c26, 0, ⟨Nat.zero_le _, (Nat.zero_mul _).symm⟩, rfl, ⟨(by first | rfl | exact int_to (by omega) | exact sl_to (by omega)), (by first | rfl | exact int_to (by omega) | exact sl_to (by omega)), (by first | rfl | exact int_to (by omega) | exact sl_to (by omega)), (by first | rfl | exact int_to (by omega) | exact sl_to (by omega)), (by first | rfl | exact int_to (by omega) | exact sl_to (by omega)), trivial⟩, wk_own rfl rfl (wk_own (by simp [headT]) (by simp [headT]) (.refl _))⟩ ?_
      rintro _ _ _ ⟨i, q, A6, A7, c6, c7, ⟨hi, hq⟩, rfl, hs, hp⟩
      refine vc_weaken _ hs (vc_wk hp ?_)
      clear hs hp
      refine vc_seq ?_
      refine vc_seq ?_
      refine vc_region ?_
      refine vl_det (det_move rfl) rfl ?_
      refine vl_det (det_move rfl) rfl ?_
      refine vl_det (det_len_sl Try.underlying22 rfl) rfl ?_
      refine vl_det (det_lss rfl rfl) rfl ?_
      refine vl_end [(0, _), (1, _), (6, _), (7, _), (8, _), (30, _)] ⟨rfl, rfl, rfl, rfl, rfl, rfl, trivial⟩ ?_
      refine then_next ?_
      refine vc_decideU rfl (fun h30 => ?_) (fun h30 => ?_)
      · skip
        have hin : i * sz < l.length := by omega
        have hiN := (chN_lt hs1).2 hin
        have hB1 := bodyT_len hs2 h25 (List.range i)
        have hH1 := headT_len hs2 h25 (List.range i)
        rw [List.length_range] at hB1 hH1
        have hX := ck_len l sz i
        have hget := @ck_get l sz i
        have h25X : ∀ s ∈ ck l sz i, s.length ≤ 25 := fun s hs => h25 s (ck_mem hs)
        have hsB := bodyT_snoc l sz (List.range i) i
        have hsH := headT_snoc l sz (List.range i) i
        rw [← List.range_succ] at hsB hsH
        have hss : (i + 1) * sz = i * sz + sz := Nat.succ_mul i sz
        unfold chE at hX
        have hbl := bucketT_len (l := ck l sz i) (by omega) h25X
        have hln : (encN l.length ++ headT l sz (List.range i)).length = (encN l.length).length + (headT l sz (List.range i)).length := List.length_append
        have hi10 : i * 10 ≤ 1048639 * 10 := Nat.mul_le_mul_right _ (by omega)
        have hi30 : i * 3000 ≤ 1048639 * 3000 := Nat.mul_le_mul_right _ (by omega)
        obtain ⟨t, r, htr⟩ : ∃ t r, ck l sz i = t :: r := by
          cases h : ck l sz i with
          | nil => rw [h] at hX; simp at hX; omega
          | cons t r => exact ⟨t, r, rfl⟩
        rw [htr] at hX hget h25X hsB hsH hbl
        have ht0 : l.getD (i * sz) [] = t := by have := hget (j := 0) (by simp); simpa using this.symm
        have ht25 := h25X t (by simp)
        have eT : (encT t ++ tailT t (r.take 0)).length = (encT t).length := by simp [tailT]
        rw [List.length_cons] at hX
        clear htr
        rw [← hq] at hin hX hget hss ht0
        refine vc_skip ?_
        refine then_next ?_
        refine vc_seq ?_
        refine vc_block ?_
        refine vc_seq ?_
        refine vc_region ?_
        refine vl_det (det_move rfl) rfl ?_
        refine vl_det (det_move rfl) rfl ?_
        refine vl_det (det_indexAddr (i := q) (size := 1) Try.underlying22 (by kernel_rfl) rfl rfl rfl (by omega) (by first | (exact Bor.own (by repeat (first | exact List.Mem.head _ | apply List.Mem.tail))) | (repeat (first | assumption | apply Bor.cons)))) rfl ?_
        refine vl_det (det_load_str (b := l) (by kernel_rfl) rfl (by first | (exact Bor.own (by repeat (first | exact List.Mem.head _ | apply List.Mem.tail))) | (repeat (first | assumption | apply Bor.cons))) (by omega)) rfl ?_
        rw [ht0]
        refine vl_call co31 rfl (rtext_d t (by omega)) rfl ?_
        rintro _ _ ⟨A38, c38, rfl, hLL⟩
        obtain rfl := hLL.symm
        refine vl_det (det_assign rfl) rfl ?_
        refine vl_end [(0, _), (1, _), (6, _), (7, _), (8, _), (9, _)] ⟨rfl, rfl, rfl, rfl, rfl, rfl, trivial⟩ ?_
        refine then_next ?_
        refine vc_seq ?_
        refine vc_seq ?_
        refine vc_region ?_
        refine vl_det (det_move rfl) rfl ?_
        refine vl_det (det_add rfl rfl (w_i64 (by omega) (by omega))) rfl ?_
        refine vl_det (det_assign rfl) rfl ?_
        refine vl_end [(0, _), (1, _), (6, _), (7, _), (8, _), (9, _), (10, _)] ⟨rfl, rfl, rfl, rfl, rfl, rfl, rfl, trivial⟩ ?_
        refine then_next ?_
        refine vc_block ?_
        refine vc_loopJ (fun zf zL zm => ∃ (j : Nat) (A9 : Option Addr) (c9 : Nat), (j ≤ r.length) ∧ r.length - j = zm ∧ Sub zf [(0, .int .i64 sz), (1, .slice A l.length c), (6, .slice A6 (encN l.length ++ headT l sz (List.range i)).length c6), (7, .slice A7 (bodyT l sz (List.range i)).length c7), (8, .int .i64 (q : Nat)), (9, .slice A9 (encT t ++ tailT t (r.take j)).length c9), (10, .int .i64 ((q + 1 + j : Nat) : Int))] ∧ Wk zL (.own 5 1 A9 (encT t ++ tailT t (r.take j)).length c9 (bv (encT t ++ tailT t (r.take j))) :: .own 5 1 A7 (bodyT l sz (List.range i)).length c7 (bv (bodyT l sz (List.range i))) :: .own 5 1 A6 (encN l.length ++ headT l sz (List.range i)).length c6 (bv (encN l.length ++ headT l sz (List.range i))) :: F)) _ ⟨0, A38, c38, Nat.zero_le _, rfl, ⟨(by first | rfl | exact int_to (by omega) | exact sl_to (by omega)), (by first | rfl | exact int_to (by omega) | exact sl_to (by omega)), (by first | rfl | exact int_to (by omega) | exact sl_to (by omega)), (by first | rfl | exact int_to (by omega) | exact sl_to (by omega)), (by first | rfl | exact int_to (by omega) | exact sl_to (by omega)), (by first | rfl | exact int_to (by omega) | exact sl_to (by omega)), (by first | rfl | exact int_to (by omega) | exact sl_to (by omega)), trivial⟩, wk_own (by simp [tailT]) (by simp [tailT]) (.refl _)⟩ ?_
        rintro _ _ _ ⟨j, A9, c9, hj, rfl, hs, hp⟩
        refine vc_weaken _ hs (vc_wk hp ?_)
        clear hs hp
        refine vc_seq ?_
        refine vc_seq ?_
        refine vc_region ?_
        refine vl_cut 11 51 [(0, _), (1, _), (6, _), (7, _), (8, _), (9, _), (10, _)] (j < r.length) ⟨rfl, rfl, rfl, rfl, rfl, rfl, rfl, trivial⟩ ?_ ?_
        · skip
          refine vl_det (det_move rfl) rfl ?_
          refine vl_det (det_move rfl) rfl ?_
          refine vl_det (det_move rfl) rfl ?_
          refine vl_det (det_add rfl rfl (w_i64 (by omega) (by omega))) rfl ?_
          refine vl_det (det_lss rfl rfl) rfl ?_
          refine vl_det (det_move rfl) rfl ?_
          refine vl_guardp rfl rfl rfl (fun h46 => ?_) (fun h46 => ?_)
          · skip
            refine vl_det (det_move rfl) rfl ?_
            refine vl_guard_t rfl rfl ?_
            refine vl_det (det_move rfl) rfl ?_
            refine vl_guard_t rfl rfl ?_
            refine vl_det (det_len_sl Try.underlying22 rfl) rfl ?_
            refine vl_guard_t rfl rfl ?_
            refine vl_det (det_lss rfl rfl) rfl ?_
            refine vl_det (det_pick_t rfl rfl) rfl ?_
            exact vl_cut_end ⟨rfl, rfl, rfl, rfl, rfl, rfl, rfl, trivial⟩ (by first | rfl | exact bool_to_t (by first | exact fun h => absurd h (by omega) | exact ⟨fun h => by omega, fun h => by omega⟩) | exact bool_to_f (by first | exact fun h => absurd h (by omega) | exact ⟨fun h => by omega, fun h => by omega⟩) | exact bool_to (by first | exact fun h => absurd h (by omega) | exact ⟨fun h => by omega, fun h => by omega⟩) | exact bool_to_b (by first | exact fun h => absurd h (by omega) | exact ⟨fun h => by omega, fun h => by omega⟩))
          · skip
            refine vl_guard_f rfl rfl rfl rfl ?_
            refine vl_guard_f rfl rfl rfl rfl ?_
            refine vl_guard_f rfl rfl rfl rfl ?_
            refine vl_det (det_pick_f rfl rfl) rfl ?_
            exact vl_cut_end ⟨rfl, rfl, rfl, rfl, rfl, rfl, rfl, trivial⟩ (by first | rfl | exact bool_to_t (by first | exact fun h => absurd h (by omega) | exact ⟨fun h => by omega, fun h => by omega⟩) | exact bool_to_f (by first | exact fun h => absurd h (by omega) | exact ⟨fun h => by omega, fun h => by omega⟩) | exact bool_to (by first | exact fun h => absurd h (by omega) | exact ⟨fun h => by omega, fun h => by omega⟩) | exact bool_to_b (by first | exact fun h => absurd h (by omega) | exact ⟨fun h => by omega, fun h => by omega⟩))
        · skip
          refine vl_end [(0, _), (1, _), (6, _), (7, _), (8, _), (9, _), (10, _), (51, _)] ⟨rfl, rfl, rfl, rfl, rfl, rfl, rfl, rfl, trivial⟩ ?_
          refine then_next ?_
          refine vc_decideU rfl (fun h51 => ?_) (fun h51 => ?_)
          · skip
            have hr45 : j * 45 ≤ 64 * 45 := Nat.mul_le_mul_right _ (by omega)
            have hp1 : l.getD (q + j) [] = (t :: r).getD j [] := (hget (j := j) (by simp; omega)).symm
            have hp2 : l.getD (q + 1 + j) [] = r.getD j [] := by
              have := (hget (j := j + 1) (by simp; omega)).symm
              rw [show q + 1 + j = q + (j + 1) by omega, this]; simp
            have hl1 : ((t :: r).getD j []).length ≤ 25 := h25X _ (by rw [List.getD_eq_getElem?_getD, List.getElem?_eq_getElem (show j < (t :: r).length by simp; omega)]; exact List.getElem_mem _)
            have hl2 : (r.getD j []).length ≤ 25 := h25X _ (by rw [List.getD_eq_getElem?_getD, List.getElem?_eq_getElem (show j < r.length by omega)]; exact List.mem_cons_of_mem _ (List.getElem_mem _))
            have hle := lcp_le ((t :: r).getD j []) (r.getD j [])
            have htl := tailT_len t (r.take j) (fun s hs => h25X s (List.mem_cons_of_mem _ (List.mem_of_mem_take hs)))
            rw [List.length_take, Nat.min_eq_left (by omega)] at htl
            have het := encT_len (s := t) (by omega)
            have hbl9 : (encT t ++ tailT t (r.take j)).length = (encT t).length + (tailT t (r.take j)).length := List.length_append
            have htk := tailT_take t r j (by omega)
            have hlk : (encT t ++ tailT t (r.take (j + 1))).length = (encT t ++ tailT t (r.take j)).length + (encN (lcp ((t :: r).getD j []) (r.getD j []))).length + (encT ((r.getD j []).drop (lcp ((t :: r).getD j []) (r.getD j [])))).length := by rw [htk, List.length_append, List.length_append, List.length_append, List.length_append]; omega
            refine vc_skip ?_
            refine then_next ?_
            refine vc_seq ?_
            refine vc_block ?_
            refine vc_seq ?_
            refine vq_region (by kernel_rfl) (by kernel_rfl) ?_
            refine vq_det (det_move rfl) rfl ?_
            refine vq_det (det_move rfl) rfl ?_
            refine vq_det (det_sub rfl rfl (w_i64 (by omega) (by omega))) rfl ?_
            refine vq_det (det_indexAddr (i := q + j) (size := 1) Try.underlying22 (by kernel_rfl) rfl rfl (by omega) (by omega) (by first | (exact Bor.own (by repeat (first | exact List.Mem.head _ | apply List.Mem.tail))) | (repeat (first | assumption | apply Bor.cons)))) rfl ?_
            refine vq_det (det_load_str (b := l) (j := q + j) (by kernel_rfl) rfl (by first | (exact Bor.own (by repeat (first | exact List.Mem.head _ | apply List.Mem.tail))) | (repeat (first | assumption | apply Bor.cons))) (by omega)) rfl ?_
            refine vq_det (det_move rfl) rfl ?_
            refine vq_det (det_move rfl) rfl ?_
            refine vq_det (det_indexAddr (i := q + 1 + j) (size := 1) Try.underlying22 (by kernel_rfl) rfl rfl (by omega) (by omega) (by first | (exact Bor.own (by repeat (first | exact List.Mem.head _ | apply List.Mem.tail))) | (repeat (first | assumption | apply Bor.cons)))) rfl ?_
            refine vq_det (det_load_str (b := l) (j := q + 1 + j) (by kernel_rfl) rfl (by first | (exact Bor.own (by repeat (first | exact List.Mem.head _ | apply List.Mem.tail))) | (repeat (first | assumption | apply Bor.cons))) (by omega)) rfl ?_
            rw [hp1, hp2]
            refine vq_call co32 rfl (rlike_d ((t :: r).getD j []) (r.getD j []) (by omega)) (by rintro _ _ ⟨rfl, rfl⟩; exact ⟨rfl, List.Sublist.refl _⟩) rfl ?_
            refine vq_det (det_assign rfl) rfl ?_
            refine vq_end [(0, _), (1, _), (6, _), (7, _), (8, _), (9, _), (10, _), (11, _)] ⟨rfl, rfl, rfl, rfl, rfl, rfl, rfl, rfl, trivial⟩ ?_
            refine then_next ?_
            refine vc_seq ?_
            refine vc_region ?_
            refine vl_det (det_move rfl) rfl ?_
            refine vl_det (det_move rfl) rfl ?_
            refine vl_det (det_conv Try.underlying3 Try.underlying54 rfl (w_u64 (by omega) (by omega))) rfl ?_
            refine vl_call co30 rfl (rnum_d (lcp ((t :: r).getD j []) (r.getD j [])) (by omega)) rfl ?_
            rintro _ _ ⟨A67, c67, rfl, hLL⟩
            obtain rfl := hLL.symm
            have hn67 : (encN (lcp ((t :: r).getD j []) (r.getD j []))).length ≤ 10 := encN_len10 (by omega)
            refine vl_eff (eff_app slT25 rfl (by repeat (first | exact .hd | apply Sel.tl)) rfl (by first | (exact Bor.own (by repeat (first | exact List.Mem.head _ | apply List.Mem.tail))) | (repeat (first | assumption | apply Bor.cons))) (by first | exact bv_one _ | exact strs_one _ | exact ints_one _ _ | (simp; done) | (simp [Value.oneCell']; done) | assumption) (by omega) (by omega)) rfl ?_
            rintro _ _ ⟨A68, c68, rfl, rfl⟩
            refine vl_det (det_assign rfl) rfl ?_
            refine vl_end [(0, _), (1, _), (6, _), (7, _), (8, _), (9, _), (10, _), (11, _)] ⟨rfl, rfl, rfl, rfl, rfl, rfl, rfl, rfl, trivial⟩ ?_
            refine then_next ?_
            refine vc_region ?_
            refine vl_det (det_move rfl) rfl ?_
            refine vl_det (det_move rfl) rfl ?_
            refine vl_det (det_move rfl) rfl ?_
            refine vl_det (det_indexAddr (i := q + 1 + j) (size := 1) Try.underlying22 (by kernel_rfl) rfl rfl (by omega) (by omega) (by first | (exact Bor.own (by repeat (first | exact List.Mem.head _ | apply List.Mem.tail))) | (repeat (first | assumption | apply Bor.cons)))) rfl ?_
            refine vl_det (det_load_str (b := l) (j := q + 1 + j) (by kernel_rfl) rfl (by first | (exact Bor.own (by repeat (first | exact List.Mem.head _ | apply List.Mem.tail))) | (repeat (first | assumption | apply Bor.cons))) (by omega)) rfl ?_
            rw [hp2]
            refine vl_det (det_move rfl) rfl ?_
            refine vl_det (det_str_lo Try.underlying9 rfl rfl rfl (by omega)) rfl ?_
            refine vl_call co31 rfl (rtext_d ((r.getD j []).drop (lcp ((t :: r).getD j []) (r.getD j []))) (by rw [List.length_drop]; omega)) rfl ?_
            rintro _ _ ⟨A76, c76, rfl, hLL⟩
            obtain rfl := hLL.symm
            have hn76 := encT_len (s := (r.getD j []).drop (lcp ((t :: r).getD j []) (r.getD j []))) (by rw [List.length_drop]; omega)
            rw [List.length_drop] at hn76
            refine vl_eff (eff_app slT25 rfl (by repeat (first | exact .hd | apply Sel.tl)) rfl (by first | (exact Bor.own (by repeat (first | exact List.Mem.head _ | apply List.Mem.tail))) | (repeat (first | assumption | apply Bor.cons))) (by first | exact bv_one _ | exact strs_one _ | exact ints_one _ _ | (simp; done) | (simp [Value.oneCell']; done) | assumption) (by omega) (by omega)) rfl ?_
            rintro _ _ ⟨A77, c77, rfl, rfl⟩
            refine vl_det (det_assign rfl) rfl ?_
            refine vl_end [(0, _), (1, _), (6, _), (7, _), (8, _), (9, _), (10, _)] ⟨rfl, rfl, rfl, rfl, rfl, rfl, rfl, trivial⟩ ?_
            refine in_normal ?_
            refine then_next ?_
            refine vc_region ?_
            refine vl_det (det_move rfl) rfl ?_
            refine vl_det (det_add rfl rfl (w_i64 (by omega) (by omega))) rfl ?_
            refine vl_det (det_assign rfl) rfl ?_
            refine vl_end [(0, _), (1, _), (6, _), (7, _), (8, _), (9, _), (10, _)] ⟨rfl, rfl, rfl, rfl, rfl, rfl, rfl, trivial⟩ ?_
            refine in_loop_ ⟨_, by omega, j + 1, A77, c77, by omega, rfl, ⟨(by first | rfl | exact int_to (by omega) | exact sl_to (by omega)), (by first | rfl | exact int_to (by omega) | exact sl_to (by omega)), (by first | rfl | exact int_to (by omega) | exact sl_to (by omega)), (by first | rfl | exact int_to (by omega) | exact sl_to (by omega)), (by first | rfl | exact int_to (by omega) | exact sl_to (by omega)), (by first | rfl | exact int_to (by omega) | exact sl_to (by omega)), (by first | rfl | exact int_to (by omega) | exact sl_to (by omega)), trivial⟩, .skip (.skip (wk_own (by rw [htk]; simp [Nat.add_assoc]) (by rw [htk]; simp [List.append_assoc]) (.refl _)))⟩
          · skip
            obtain rfl : j = r.length := by omega
            rw [List.take_length, show encT t ++ tailT t r = bucketT (t :: r) from rfl]
            refine vc_exit ?_
            refine then_exit ?_
            refine loop_exit ?_
            refine in_eq ?_
            refine then_next ?_
            refine vc_seq ?_
            refine vc_region ?_
            refine vl_det (det_move rfl) rfl ?_
            refine vl_det (det_move rfl) rfl ?_
            refine vl_det (det_len_sl Try.underlying25 rfl) rfl ?_
            refine vl_det (det_conv Try.underlying3 Try.underlying54 rfl (w_u64 (by omega) (by omega))) rfl ?_
            refine vl_call co30 rfl (rnum_d (bucketT (t :: r)).length (by omega)) rfl ?_
            rintro _ _ ⟨A82, c82, rfl, hLL⟩
            obtain rfl := hLL.symm
            have hn82 : (encN (bucketT (t :: r)).length).length ≤ 10 := encN_len10 (by omega)
            refine vl_eff (eff_app slT25 rfl (by repeat (first | exact .hd | apply Sel.tl)) rfl (by first | (exact Bor.own (by repeat (first | exact List.Mem.head _ | apply List.Mem.tail))) | (repeat (first | assumption | apply Bor.cons))) (by first | exact bv_one _ | exact strs_one _ | exact ints_one _ _ | (simp; done) | (simp [Value.oneCell']; done) | assumption) (by omega) (by omega)) rfl ?_
            rintro _ _ ⟨A83, c83, rfl, rfl⟩
            refine vl_det (det_assign rfl) rfl ?_
            refine vl_end [(0, _), (1, _), (6, _), (7, _), (8, _), (9, _)] ⟨rfl, rfl, rfl, rfl, rfl, rfl, trivial⟩ ?_
            refine then_next ?_
            refine vc_region ?_
            refine vl_det (det_move rfl) rfl ?_
            refine vl_det (det_move rfl) rfl ?_
            refine vl_eff (eff_app slT25 rfl (by repeat (first | exact .hd | apply Sel.tl)) rfl (by first | (exact Bor.own (by repeat (first | exact List.Mem.head _ | apply List.Mem.tail))) | (repeat (first | assumption | apply Bor.cons))) (by first | exact bv_one _ | exact strs_one _ | exact ints_one _ _ | (simp; done) | (simp [Value.oneCell']; done) | assumption) (by omega) (by omega)) rfl ?_
            rintro _ _ ⟨A86, c86, rfl, rfl⟩
            refine vl_det (det_assign rfl) rfl ?_
            refine vl_end [(0, _), (1, _), (6, _), (7, _), (8, _)] ⟨rfl, rfl, rfl, rfl, rfl, trivial⟩ ?_
            refine in_normal ?_
            refine then_next ?_
            refine vc_region ?_
            refine vl_det (det_move rfl) rfl ?_
            refine vl_det (det_move rfl) rfl ?_
            refine vl_det (det_add rfl rfl (w_i64 (by omega) (by omega))) rfl ?_
            refine vl_det (det_assign rfl) rfl ?_
            refine vl_end [(0, _), (1, _), (6, _), (7, _), (8, _)] ⟨rfl, rfl, rfl, rfl, rfl, trivial⟩ ?_
            have hlB : (bodyT l sz (List.range (i + 1))).length = (bodyT l sz (List.range i)).length + (bucketT (t :: r)).length := by rw [hsB, List.length_append]
            have hlH : (encN l.length ++ headT l sz (List.range (i + 1))).length = (encN l.length ++ headT l sz (List.range i)).length + (encN (bucketT (t :: r)).length).length := by rw [hsH, List.length_append, List.length_append, List.length_append]; omega
            refine in_loop_ ⟨_, by omega, i + 1, q + sz, A83, A86, c83, c86, ⟨by omega, hss.symm⟩, rfl, ⟨(by first | rfl | exact int_to (by omega) | exact sl_to (by omega)), (by first | rfl | exact int_to (by omega) | exact sl_to (by omega)), (by first | rfl | exact int_to (by omega) | exact sl_to (by omega)), (by first | rfl | exact int_to (by omega) | exact sl_to (by omega)), (by first | rfl | exact int_to (by omega) | exact sl_to (by omega)), trivial⟩, .skip (.skip (wk_own (by rw [hsB]; simp) (by rw [hsB]; simp) (wk_own (by rw [hsH]; simp [Nat.add_assoc]) (by rw [hsH]; simp) (.refl _))))⟩
      · skip
        have hge : i = chN sz l.length := by
          by_cases e : i < chN sz l.length
          · exact absurd ((chN_lt hs1).1 e) (by omega)
          · omega
        subst hge
        have hB1 := bodyT_len hs2 h25 (List.range (chN sz l.length))
        have hH1 := headT_len hs2 h25 (List.range (chN sz l.length))
        rw [List.length_range] at hB1 hH1
        have hln : (encN l.length ++ headT l sz (List.range (chN sz l.length))).length = (encN l.length).length + (headT l sz (List.range (chN sz l.length))).length := List.length_append
        have hi10 := Nat.mul_le_mul_right 10 hNl
        have hi30 := Nat.mul_le_mul_right 3000 hNl
        refine vc_exit ?_
        refine then_exit ?_
        refine loop_exit ?_
        refine in_eq ?_
        refine then_next ?_
        refine vc_seq ?_
        refine vc_region ?_
        refine vl_det (det_move rfl) rfl ?_
        refine vl_det (det_move rfl) rfl ?_
        refine vl_eff (eff_app slT25 rfl (by repeat (first | exact .hd | apply Sel.tl)) rfl (by first | (exact Bor.own (by repeat (first | exact List.Mem.head _ | apply List.Mem.tail))) | (repeat (first | assumption | apply Bor.cons))) (by first | exact bv_one _ | exact strs_one _ | exact ints_one _ _ | (simp; done) | (simp [Value.oneCell']; done) | assumption) (by omega) (by omega)) rfl ?_
        rintro _ _ ⟨A89, c89, rfl, rfl⟩
        refine vl_det (det_assign rfl) rfl ?_
        refine vl_det (det_assign rfl) rfl ?_
        refine vl_end [(4, _), (5, _)] ⟨rfl, rfl, trivial⟩ ?_
        refine then_next ?_
        refine vc_ret ?_
        refine ret_wk (L' := .own 5 1 A89 (dictB sz l).length c89 (bv (dictB sz l)) :: F) (.skip (wk_own (by simp [dictB, Nat.add_assoc]) (by simp [dictB]) (.refl _))) ?_
        refine ret2 rfl rfl rfl ?_
        exact ⟨A89, c89, by rw [show (dictB sz l).length = (encN l.length ++ headT l sz (List.range (chN sz l.length))).length + (bodyT l sz (List.range (chN sz l.length))).length by simp [dictB, Nat.add_assoc]], rfl⟩
end Go.Proofs.Ytbkaoncopohdbaa
