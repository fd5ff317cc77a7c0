/-
  The document's words: plain functions, and the walk. Conditions: texts are no longer than 2^38.
-/
import Derived.Test.YtpamjobiohbibaaWd1
namespace Go.Proofs.Ytpamjobiohbibaa
open Go.RowKit
set_option linter.unusedVariables false
variable {B : Nat} {w0 : World} {F : List Ch}
theorem wordAt_stop (T : List UInt8) (m : Nat) (hm : m ≤ 24) (hp : ∀ x ∈ T.take m, small x ≠ 0) (hs : m = T.length ∨ (∃ c, T[m]? = some c ∧ small c = 0) ∨ m = 24) : wordAt T = (T.take m).map small := by
  have e : T = T.take m ++ T.drop m := (List.take_append_drop m T).symm
  have hp' : ∀ x ∈ T.take m, (fun c : UInt8 => decide (small c ≠ 0)) x = true := fun x hx => decide_eq_true (hp x hx)
  have key : T.takeWhile (fun c => decide (small c ≠ 0)) = T.take m ++ (T.drop m).takeWhile (fun c => decide (small c ≠ 0)) := by
    conv => lhs; rw [e]
    rw [List.takeWhile_append_of_pos hp']
  unfold wordAt
  rw [key, List.map_append]
  have hml : ((T.take m).map small).length ≤ 24 := by simp; omega
  rcases hs with h | ⟨c, h, h0⟩ | h
  · have : T.drop m = [] := by rw [h]; exact List.drop_length
    rw [this, List.takeWhile_nil, List.map_nil, List.append_nil]
    exact List.take_of_length_le hml
  · have hd : T.drop m = c :: T.drop (m + 1) := by
      obtain ⟨hlt, rfl⟩ := List.getElem?_eq_some_iff.1 h
      exact List.drop_eq_getElem_cons hlt
    rw [hd, List.takeWhile_cons, if_neg (by simp [h0]), List.map_nil, List.append_nil]
    exact List.take_of_length_le hml
  · subst h
    rcases Nat.lt_or_ge T.length 24 with h | h
    · have : T.drop 24 = [] := List.drop_eq_nil_of_le (by omega)
      rw [this, List.takeWhile_nil, List.map_nil, List.append_nil]
      exact List.take_of_length_le hml
    · have hl : ((T.take 24).map small).length = 24 := by simp; omega
      rw [List.take_append_of_le_length (by omega), List.take_of_length_le (by omega)]
/-- the document's place: what was found, and whether a letter stands before -/
def RefAt (l : List UInt8) (i : Nat) (OUT : List (List UInt8)) (prev : Bool) : Prop :=
  OUT ++ refW prev (l.drop i) = refW false l ∧ (i = 0 → prev = false) ∧ (∀ c, 0 < i → l[i - 1]? = some c → prev = decide (small c ≠ 0)) ∧ OUT.length ≤ i
theorem RefAt.start (l : List UInt8) : RefAt l 0 [] false := ⟨rfl, fun _ => rfl, fun _ h => absurd h (by omega), Nat.le_refl _⟩
theorem RefAt.skip {l : List UInt8} {i : Nat} {OUT : List (List UInt8)} {prev : Bool} {c : UInt8} (h : RefAt l i OUT prev) (hc : l[i]? = some c) (hs : small c = 0 ∨ prev = true) : RefAt l (i + 1) OUT (decide (small c ≠ 0)) := by
  obtain ⟨hlt, rfl⟩ := List.getElem?_eq_some_iff.1 hc
  refine ⟨?_, fun h => by omega, fun c' _ hc' => ?_, by have := h.2.2.2; omega⟩
  · have := h.1
    rw [List.drop_eq_getElem_cons hlt, refW, if_pos hs] at this
    exact this
  · rw [Nat.add_sub_cancel, hc] at hc'
    injection hc' with hc'
    rw [hc']
theorem RefAt.put {l : List UInt8} {i : Nat} {OUT : List (List UInt8)} {prev : Bool} {c : UInt8} (h : RefAt l i OUT prev) (hc : l[i]? = some c) (hs : small c ≠ 0) (hp : prev = false) : RefAt l (i + 1) (OUT ++ [wordAt (l.drop i)]) (decide (small c ≠ 0)) := by
  obtain ⟨hlt, rfl⟩ := List.getElem?_eq_some_iff.1 hc
  refine ⟨?_, fun h => by omega, fun c' _ hc' => ?_, by have := h.2.2.2; simp; omega⟩
  · have := h.1
    rw [List.drop_eq_getElem_cons hlt, refW, if_neg (by simp [hs, hp])] at this
    rw [← this, List.append_assoc, decide_eq_true hs, List.drop_eq_getElem_cons hlt]
    rfl
  · rw [Nat.add_sub_cancel, hc] at hc'
    injection hc' with hc'
    rw [hc']
theorem RefAt.done {l : List UInt8} {OUT : List (List UInt8)} {prev : Bool} (h : RefAt l l.length OUT prev) : OUT = wordsL l := by
  have := h.1
  rw [List.drop_length] at this
  rw [words_ref, ← this]
  simp [refW]
/-- inside: the letters taken from place i on -/
def TakenAt (l : List UInt8) (i m : Nat) (R : List UInt8) : Prop := R = ((l.drop i).take m).map small ∧ ∀ x ∈ (l.drop i).take m, small x ≠ 0
theorem TakenAt.more {l : List UInt8} {i m : Nat} {R : List UInt8} {c : UInt8} (h : TakenAt l i m R) (hc : l[i + m]? = some c) (hs : small c ≠ 0) : TakenAt l i (m + 1) (R ++ [small c]) := by
  have e : (l.drop i).take (m + 1) = (l.drop i).take m ++ [c] := by
    rw [List.take_add_one, List.getElem?_drop, hc]; rfl
  refine ⟨by rw [e, List.map_append, ← h.1]; rfl, fun x hx => ?_⟩
  rw [e] at hx
  rcases List.mem_append.1 hx with hx | hx
  · exact h.2 x hx
  · simp at hx; subst hx; exact hs
theorem TakenAt.len {l : List UInt8} {i m : Nat} {R : List UInt8} (h : TakenAt l i m R) (hm : i + m ≤ l.length) : R.length = m := by
  rw [h.1]; simp; omega
theorem TakenAt.stop {l : List UInt8} {i m : Nat} {R : List UInt8} (h : TakenAt l i m R) (hm : m ≤ 24) (hi : i + m ≤ l.length) (hs : i + m = l.length ∨ (∃ c, l[i + m]? = some c ∧ small c = 0) ∨ m = 24) : R = wordAt (l.drop i) := by
  rw [h.1, wordAt_stop _ m hm h.2]
  rcases hs with h | ⟨c, h1, h2⟩ | h
  · left; simp; omega
  · right; left; exact ⟨c, by rw [List.getElem?_drop]; exact h1, h2⟩
  · right; right; exact h

theorem RefAt.test {l : List UInt8} {k : Nat} {OUT : List (List UInt8)} {prev : Bool} (h : RefAt l k OUT prev) (hk : k ≤ l.length) : prev = decide (0 < k ∧ small (l.getD (k - 1) 0) ≠ 0) := by
  rcases Nat.eq_zero_or_pos k with h0 | h0
  · rw [h.2.1 h0, decide_eq_false (by omega)]
  · have hlt : k - 1 < l.length := by omega
    rw [h.2.2.1 (l.getD (k - 1) 0) h0 (by rw [List.getElem?_eq_getElem hlt]; simp [List.getD, List.getElem?_eq_getElem hlt])]
    simp [h0]
theorem get_getD {l : List UInt8} {k : Nat} (h : k < l.length) : l[k]? = some (l.getD k 0) := by
  rw [List.getElem?_eq_getElem h]; simp [List.getD, List.getElem?_eq_getElem h]
theorem TakenAt.stop' {l : List UInt8} {i m : Nat} {R : List UInt8} (h : TakenAt l i m R) (hm : m ≤ 24) (hi : i + m ≤ l.length) (hs : ¬ ((i + m < l.length ∧ small (l.getD (i + m) 0) ≠ 0) ∧ m < 24)) : R = wordAt (l.drop i) := by
  refine h.stop hm hi ?_
  by_cases h1 : i + m < l.length
  · by_cases h2 : small (l.getD (i + m) 0) = 0
    · exact .inr (.inl ⟨_, get_getD h1, h2⟩)
    · exact .inr (.inr (Nat.le_antisymm hm (Nat.le_of_not_lt fun h => hs ⟨⟨h1, h2⟩, h⟩)))
  · exact .inl (by omega)
set_option maxHeartbeats 400000 in
theorem rwords_d (l : List UInt8) (hl : l.length ≤ 274877906944) : Does Try.prog B w0 56 [.string ⟨l.toArray⟩] F (fun r L => ∃ A c, r = .slice A (wordsL l).length c ∧ L = .own 9 1 A (wordsL l).length c (strs (wordsL l)) :: F) := by
  refine fn_walk Try.func56 62 rfl rfl rfl [(0, .string ⟨l.toArray⟩)] ⟨⟨rfl, rfl⟩, trivial⟩ ?_
  refine vc_seq ?_
  refine vc_region ?_
  refine vl_det (det_assign rfl) rfl ?_
  refine vl_end [(0, _)] ⟨rfl, trivial⟩ ?_
  refine then_next ?_
  refine vc_seq ?_
  refine vc_region ?_
  refine vl_det (det_assign rfl) rfl ?_
  refine vl_end [(0, _), (3, _)] ⟨rfl, rfl, trivial⟩ ?_
  refine then_next ?_
  refine vc_seq ?_
  refine vc_seq ?_
  refine vc_region ?_
  refine vl_det (det_assign rfl) rfl ?_
  refine vl_end [(0, _), (3, _), (4, _)] ⟨rfl, rfl, rfl, trivial⟩ ?_
  refine then_next ?_
  refine vc_block ?_
  refine vc_nil_row 9 1 none ?_
  refine vc_loopJ (fun zf zL zm => ∃ (k n : Nat) (OUT : List (List UInt8)) (prev : Bool) (A : Option Addr) (c : Nat), (k ≤ l.length ∧ RefAt l k OUT prev ∧ n = OUT.length) ∧ l.length - k = zm ∧ Sub zf [(0, .string ⟨l.toArray⟩), (3, .slice A n c), (4, .int .i64 k)] ∧ Wk zL (.own 9 1 A n c (strs OUT) :: F)) _ ⟨0, 0, [], false, none, 0, ⟨Nat.zero_le _, RefAt.start l, rfl⟩, rfl, ⟨(by first | rfl | exact int_to (by omega) | exact sl_to (by omega)), (by first | rfl | exact int_to (by omega) | exact sl_to (by omega)), (by first | rfl | exact int_to (by omega) | exact sl_to (by omega)), trivial⟩, .refl _⟩ ?_
  rintro _ _ _ ⟨k, n, OUT, prev, A, c, ⟨hk, hR, hn⟩, rfl, hs, hp⟩
  refine vc_weaken _ hs (vc_wk hp ?_)
  clear hs hp
  have hol := hR.2.2.2
  refine vc_seq ?_
  refine vc_seq ?_
  refine vc_region ?_
  refine vl_det (det_move rfl) rfl ?_
  refine vl_det (det_move rfl) rfl ?_
  refine vl_det (det_len_s Try.underlying9 rfl) rfl ?_
  refine vl_det (det_lss rfl rfl) rfl ?_
  refine vl_end [(0, _), (3, _), (4, _), (10, _)] ⟨rfl, rfl, rfl, rfl, trivial⟩ ?_
  refine then_next ?_
  refine vc_decideU rfl (fun h10 => ?_) (fun h10 => ?_)
  · skip
    refine vc_skip ?_
    refine then_next ?_
    refine vc_seq ?_
    refine vc_block ?_
    refine vc_seq ?_
    refine vc_seq ?_
    refine vc_region ?_
    refine vl_cut 17 29 [(0, _), (3, _), (4, _)] (small (l.getD k 0) = 0 ∨ (0 < k ∧ small (l.getD (k - 1) 0) ≠ 0)) ⟨rfl, rfl, rfl, trivial⟩ ?_ ?_
    · skip
      refine vl_det (det_move rfl) rfl ?_
      refine vl_det (det_move rfl) rfl ?_
      refine vl_det (det_at_str Try.underlying9 rfl rfl rfl (by omega)) rfl ?_
      refine vl_call co98 rfl (rsmall_d _) rfl ?_
      rintro _ _ ⟨rfl, hLL⟩
      obtain rfl := hLL.symm
      refine vl_det (det_eql rfl rfl) rfl ?_
      refine vl_det (det_move rfl) rfl ?_
      refine vl_guardn rfl rfl rfl (fun h18 => ?_) (fun h18 => ?_)
      · skip
        refine vl_det (det_move rfl) rfl ?_
        refine vl_guard_t rfl rfl ?_
        refine vl_det (det_gtr rfl rfl) rfl ?_
        refine vl_guard_t rfl rfl ?_
        refine vl_det (det_move rfl) rfl ?_
        refine vl_guardp rfl rfl rfl (fun h21 => ?_) (fun h21 => ?_)
        · skip
          refine vl_det (det_move rfl) rfl ?_
          refine vl_guard_t rfl rfl ?_
          refine vl_det (det_move rfl) rfl ?_
          refine vl_guard_t rfl rfl ?_
          refine vl_det (det_sub rfl rfl (w_i64 (by omega) (by omega))) rfl ?_
          refine vl_guard_t rfl rfl ?_
          refine vl_det (det_at_str (i := k - 1) Try.underlying9 rfl rfl (by omega) (by omega)) rfl ?_
          refine vl_guard_t rfl rfl ?_
          refine vl_call co98 rfl (rsmall_d _) rfl ?_
          rintro _ _ ⟨rfl, hLL⟩
          obtain rfl := hLL.symm
          refine vl_guard_t rfl rfl ?_
          refine vl_det (det_neq rfl rfl) rfl ?_
          refine vl_guard_t rfl rfl ?_
          refine vl_det (det_pick_t rfl rfl) rfl ?_
          refine vl_det (det_pick_f rfl rfl) rfl ?_
          exact vl_cut_end ⟨rfl, rfl, rfl, trivial⟩ (by first | rfl | exact bool_to_t (by first | omega | (simp only [← UInt8.toNat_inj, ne_eq] at *; simp at *; omega)) | exact bool_to_f (by first | omega | (simp only [← UInt8.toNat_inj, ne_eq] at *; simp at *; omega)) | exact bool_to (by first | omega | (simp only [← UInt8.toNat_inj, ne_eq] at *; simp at *; omega)) | exact bool_to_b (by first | omega | (simp only [← UInt8.toNat_inj, ne_eq] at *; simp at *; omega)))
        · skip
          refine vl_guard_f rfl rfl rfl rfl ?_
          refine vl_guard_f rfl rfl rfl rfl ?_
          refine vl_guard_f rfl rfl rfl rfl ?_
          refine vl_guard_f rfl rfl rfl rfl ?_
          refine vl_guard_f rfl rfl rfl rfl ?_
          refine vl_guard_t rfl rfl ?_
          refine vl_det (det_pick_f rfl rfl) rfl ?_
          refine vl_det (det_pick_f rfl rfl) rfl ?_
          exact vl_cut_end ⟨rfl, rfl, rfl, trivial⟩ (by first | rfl | exact bool_to_t (by first | omega | (simp only [← UInt8.toNat_inj, ne_eq] at *; simp at *; omega)) | exact bool_to_f (by first | omega | (simp only [← UInt8.toNat_inj, ne_eq] at *; simp at *; omega)) | exact bool_to (by first | omega | (simp only [← UInt8.toNat_inj, ne_eq] at *; simp at *; omega)) | exact bool_to_b (by first | omega | (simp only [← UInt8.toNat_inj, ne_eq] at *; simp at *; omega)))
      · skip
        refine vl_guard_f rfl rfl rfl rfl ?_
        refine vl_guard_f rfl rfl rfl rfl ?_
        refine vl_guard_u rfl rfl rfl ?_
        refine vl_guard_u rfl rfl rfl ?_
        refine vl_guard_u rfl rfl rfl ?_
        refine vl_guard_u rfl rfl rfl ?_
        refine vl_guard_u rfl rfl rfl ?_
        refine vl_guard_u rfl rfl rfl ?_
        refine vl_guard_f rfl rfl rfl rfl ?_
        refine vl_det (det_pick_t rfl rfl) rfl ?_
        exact vl_cut_end ⟨rfl, rfl, rfl, trivial⟩ (by first | rfl | exact bool_to_t (by first | omega | (simp only [← UInt8.toNat_inj, ne_eq] at *; simp at *; omega)) | exact bool_to_f (by first | omega | (simp only [← UInt8.toNat_inj, ne_eq] at *; simp at *; omega)) | exact bool_to (by first | omega | (simp only [← UInt8.toNat_inj, ne_eq] at *; simp at *; omega)) | exact bool_to_b (by first | omega | (simp only [← UInt8.toNat_inj, ne_eq] at *; simp at *; omega)))
    · skip
      refine vl_end [(0, _), (3, _), (4, _), (29, _)] ⟨rfl, rfl, rfl, rfl, trivial⟩ ?_
      refine then_next ?_
      refine vc_decideU rfl (fun h29 => ?_) (fun h29 => ?_)
      · skip
        have hprev := hR.test hk
        refine vc_exit ?_
        refine then_exit ?_
        refine in_eq ?_
        refine then_next ?_
        refine vc_region ?_
        refine vl_det (det_move rfl) rfl ?_
        refine vl_det (det_add rfl rfl (w_i64 (by omega) (by omega))) rfl ?_
        refine vl_det (det_assign rfl) rfl ?_
        refine vl_end [(0, _), (3, _), (4, _)] ⟨rfl, rfl, rfl, trivial⟩ ?_
        refine in_loop_ ⟨_, by omega, k + 1, n, OUT, _, A, c, ⟨by omega, hR.skip (get_getD (by omega)) (by rw [hprev]; simpa using h29), hn⟩, rfl, ⟨(by first | rfl | exact int_to (by omega) | exact sl_to (by omega)), (by first | rfl | exact int_to (by omega) | exact sl_to (by omega)), (by first | rfl | exact int_to (by omega) | exact sl_to (by omega)), trivial⟩, .refl _⟩
      · skip
        refine vc_skip ?_
        refine then_next ?_
        refine vc_seq ?_
        refine vc_region ?_
        refine vl_det (det_assign rfl) rfl ?_
        refine vl_end [(0, _), (3, _), (4, _), (5, _)] ⟨rfl, rfl, rfl, rfl, trivial⟩ ?_
        refine then_next ?_
        refine vc_seq ?_
        refine vc_seq ?_
        refine vc_region ?_
        refine vl_det (det_move rfl) rfl ?_
        refine vl_det (det_assign rfl) rfl ?_
        refine vl_end [(0, _), (3, _), (4, _), (5, _), (6, _)] ⟨rfl, rfl, rfl, rfl, rfl, trivial⟩ ?_
        refine then_next ?_
        refine vc_block ?_
        refine vc_nil_row 5 1 none ?_
        refine vc_loopJ (fun zf zL zm => ∃ (m : Nat) (R : List UInt8) (A2 : Option Addr) (c2 : Nat), (m ≤ 24 ∧ k + m ≤ l.length ∧ TakenAt l k m R) ∧ l.length - (k + m) = zm ∧ Sub zf [(0, .string ⟨l.toArray⟩), (3, .slice A n c), (4, .int .i64 k), (5, .slice A2 m c2), (6, .int .i64 ((k + m : Nat) : Int))] ∧ Wk zL (.own 5 1 A2 m c2 (bv R) :: .own 9 1 A n c (strs OUT) :: F)) _ ⟨0, [], none, 0, ⟨by omega, by omega, rfl, by simp⟩, rfl, ⟨(by first | rfl | exact int_to (by omega) | exact sl_to (by omega)), (by first | rfl | exact int_to (by omega) | exact sl_to (by omega)), (by first | rfl | exact int_to (by omega) | exact sl_to (by omega)), (by first | rfl | exact int_to (by omega) | exact sl_to (by omega)), (by first | rfl | exact int_to (by omega) | exact sl_to (by omega)), trivial⟩, .refl _⟩ ?_
        rintro _ _ _ ⟨m, R, A2, c2, ⟨hm, hkm, hT⟩, rfl, hs, hp⟩
        refine vc_weaken _ hs (vc_wk hp ?_)
        clear hs hp
        refine vc_seq ?_
        refine vc_seq ?_
        refine vc_region ?_
        refine vl_cut 16 46 [(0, _), (3, _), (4, _), (5, _), (6, _)] ((k + m < l.length ∧ small (l.getD (k + m) 0) ≠ 0) ∧ m < 24) ⟨rfl, rfl, rfl, rfl, rfl, trivial⟩ ?_ ?_
        · skip
          refine vl_det (det_move rfl) rfl ?_
          refine vl_det (det_move rfl) rfl ?_
          refine vl_det (det_len_s Try.underlying9 rfl) rfl ?_
          refine vl_det (det_lss rfl rfl) rfl ?_
          refine vl_det (det_move rfl) rfl ?_
          refine vl_guardp rfl rfl rfl (fun h35 => ?_) (fun h35 => ?_)
          · skip
            refine vl_det (det_move rfl) rfl ?_
            refine vl_guard_t rfl rfl ?_
            refine vl_det (det_move rfl) rfl ?_
            refine vl_guard_t rfl rfl ?_
            refine vl_det (det_at_str Try.underlying9 rfl rfl rfl (by omega)) rfl ?_
            refine vl_guard_t rfl rfl ?_
            refine vl_call co98 rfl (rsmall_d _) rfl ?_
            rintro _ _ ⟨rfl, hLL⟩
            obtain rfl := hLL.symm
            refine vl_guard_t rfl rfl ?_
            refine vl_det (det_neq rfl rfl) rfl ?_
            refine vl_det (det_pick_t rfl rfl) rfl ?_
            refine vl_det (det_move rfl) rfl ?_
            refine vl_guardp rfl rfl rfl (fun h42 => ?_) (fun h42 => ?_)
            · skip
              refine vl_det (det_move rfl) rfl ?_
              refine vl_guard_t rfl rfl ?_
              refine vl_det (det_len_sl Try.underlying41 rfl) rfl ?_
              refine vl_guard_t rfl rfl ?_
              refine vl_det (det_lss rfl rfl) rfl ?_
              refine vl_det (det_pick_t rfl rfl) rfl ?_
              exact vl_cut_end ⟨rfl, rfl, rfl, rfl, rfl, trivial⟩ (by first | rfl | exact bool_to_t (by first | omega | (simp only [← UInt8.toNat_inj, ne_eq] at *; simp at *; omega)) | exact bool_to_f (by first | omega | (simp only [← UInt8.toNat_inj, ne_eq] at *; simp at *; omega)) | exact bool_to (by first | omega | (simp only [← UInt8.toNat_inj, ne_eq] at *; simp at *; omega)) | exact bool_to_b (by first | omega | (simp only [← UInt8.toNat_inj, ne_eq] at *; simp at *; omega)))
            · skip
              refine vl_guard_f rfl rfl rfl rfl ?_
              refine vl_guard_f rfl rfl rfl rfl ?_
              refine vl_det (det_pick_f rfl rfl) rfl ?_
              exact vl_cut_end ⟨rfl, rfl, rfl, rfl, rfl, trivial⟩ (by first | rfl | exact bool_to_t (by first | omega | (simp only [← UInt8.toNat_inj, ne_eq] at *; simp at *; omega)) | exact bool_to_f (by first | omega | (simp only [← UInt8.toNat_inj, ne_eq] at *; simp at *; omega)) | exact bool_to (by first | omega | (simp only [← UInt8.toNat_inj, ne_eq] at *; simp at *; omega)) | exact bool_to_b (by first | omega | (simp only [← UInt8.toNat_inj, ne_eq] at *; simp at *; omega)))
          · skip
            refine vl_guard_f rfl rfl rfl rfl ?_
            refine vl_guard_f rfl rfl rfl rfl ?_
            refine vl_guard_f rfl rfl rfl rfl ?_
            refine vl_guard_f rfl rfl rfl rfl ?_
            refine vl_det (det_pick_f rfl rfl) rfl ?_
            refine vl_det (det_move rfl) rfl ?_
            refine vl_guard_f rfl rfl rfl rfl ?_
            refine vl_guard_f rfl rfl rfl rfl ?_
            refine vl_guard_f rfl rfl rfl rfl ?_
            refine vl_det (det_pick_f rfl rfl) rfl ?_
            exact vl_cut_end ⟨rfl, rfl, rfl, rfl, rfl, trivial⟩ (by first | rfl | exact bool_to_t (by first | omega | (simp only [← UInt8.toNat_inj, ne_eq] at *; simp at *; omega)) | exact bool_to_f (by first | omega | (simp only [← UInt8.toNat_inj, ne_eq] at *; simp at *; omega)) | exact bool_to (by first | omega | (simp only [← UInt8.toNat_inj, ne_eq] at *; simp at *; omega)) | exact bool_to_b (by first | omega | (simp only [← UInt8.toNat_inj, ne_eq] at *; simp at *; omega)))
        · skip
          refine vl_end [(0, _), (3, _), (4, _), (5, _), (6, _), (46, _)] ⟨rfl, rfl, rfl, rfl, rfl, rfl, trivial⟩ ?_
          refine then_next ?_
          refine vc_decideU rfl (fun h46 => ?_) (fun h46 => ?_)
          · skip
            refine vc_skip ?_
            refine then_next ?_
            refine vc_seq ?_
            refine vc_block ?_
            refine vc_region ?_
            refine vl_det (det_move rfl) rfl ?_
            refine vl_det (det_move rfl) rfl ?_
            refine vl_det (det_move rfl) rfl ?_
            refine vl_det (det_at_str Try.underlying9 rfl rfl rfl (by omega)) rfl ?_
            refine vl_call co98 rfl (rsmall_d _) rfl ?_
            rintro _ _ ⟨rfl, hLL⟩
            obtain rfl := hLL.symm
            refine vl_push slT41 rfl rfl rfl rfl rfl (fun _ => rfl) (by repeat (first | exact .hd | apply Sel.tl)) (by omega) (by omega) ?_
            intro _ A55 c55
            refine vl_det (det_assign rfl) rfl ?_
            refine vl_end [(0, _), (3, _), (4, _), (5, _), (6, _)] ⟨rfl, rfl, rfl, rfl, rfl, trivial⟩ ?_
            refine in_normal ?_
            refine then_next ?_
            refine vc_region ?_
            refine vl_det (det_move rfl) rfl ?_
            refine vl_det (det_add rfl rfl (w_i64 (by omega) (by omega))) rfl ?_
            refine vl_det (det_assign rfl) rfl ?_
            refine vl_end [(0, _), (3, _), (4, _), (5, _), (6, _)] ⟨rfl, rfl, rfl, rfl, rfl, trivial⟩ ?_
            refine in_loop_ ⟨_, by omega, m + 1, R ++ [small (l.getD (k + m) 0)], A55, c55, ⟨by omega, by omega, hT.more (get_getD (by omega)) h46.1.2⟩, rfl, ⟨(by first | rfl | exact int_to (by omega) | exact sl_to (by omega)), (by first | rfl | exact int_to (by omega) | exact sl_to (by omega)), (by first | rfl | exact int_to (by omega) | exact sl_to (by omega)), (by first | rfl | exact int_to (by omega) | exact sl_to (by omega)), (by first | rfl | exact int_to (by omega) | exact sl_to (by omega)), trivial⟩, wk_own rfl (by simp [bv]) (.refl _)⟩
          · skip
            refine vc_exit ?_
            refine then_exit ?_
            refine loop_exit ?_
            refine in_eq ?_
            refine then_next ?_
            refine vc_region ?_
            refine vl_det (det_move rfl) rfl ?_
            refine vl_det (det_move rfl) rfl ?_
            refine vl_det (det_bstr Try.underlying41 Try.underlying5 Try.underlying9 rfl (by first | (exact Bor.own (by repeat (first | exact List.Mem.head _ | apply List.Mem.tail))) | (repeat (first | assumption | apply Bor.cons)))) rfl ?_
            refine vl_push slT26 rfl rfl rfl rfl rfl (fun _ => rfl) (by repeat (first | exact .hd | apply Sel.tl)) (by omega) (by omega) ?_
            intro _ A60 c60
            refine vl_det (det_assign rfl) rfl ?_
            refine vl_end [(0, _), (3, _), (4, _)] ⟨rfl, rfl, rfl, trivial⟩ ?_
            refine in_normal ?_
            refine then_next ?_
            refine vc_region ?_
            refine vl_det (det_move rfl) rfl ?_
            refine vl_det (det_add rfl rfl (w_i64 (by omega) (by omega))) rfl ?_
            refine vl_det (det_assign rfl) rfl ?_
            refine vl_end [(0, _), (3, _), (4, _)] ⟨rfl, rfl, rfl, trivial⟩ ?_
            have hprev := hR.test hk
            have hst := hT.stop' hm hkm h46
            have hput := hR.put (c := l.getD k 0) (get_getD (by omega)) (fun e => h29 (.inl e)) (by rw [hprev]; exact decide_eq_false (fun e => h29 (.inr e)))
            rw [← hst] at hput
            refine in_loop_ ⟨_, by omega, k + 1, n + 1, OUT ++ [R], _, A60, c60, ⟨by omega, hput, by simp [hn]⟩, rfl, ⟨(by first | rfl | exact int_to (by omega) | exact sl_to (by omega)), (by first | rfl | exact int_to (by omega) | exact sl_to (by omega)), (by first | rfl | exact int_to (by omega) | exact sl_to (by omega)), trivial⟩, .skip (wk_own rfl (by simp [strs]) (.refl _))⟩
  · skip
    refine vc_exit ?_
    refine then_exit ?_
    refine loop_exit ?_
    refine in_eq ?_
    refine then_next ?_
    refine vc_seq ?_
    refine vc_region ?_
    refine vl_det (det_move rfl) rfl ?_
    refine vl_det (det_assign rfl) rfl ?_
    refine vl_end [(2, _)] ⟨rfl, trivial⟩ ?_
    refine then_next ?_
    refine vc_ret ?_
    refine ret1 rfl rfl ?_
    have hkl : k = l.length := by omega
    subst hkl
    have hd := hR.done
    subst hd
    subst hn
    exact ⟨A, c, rfl, rfl⟩
end Go.Proofs.Ytpamjobiohbibaa
