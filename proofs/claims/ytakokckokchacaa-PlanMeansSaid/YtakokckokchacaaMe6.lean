/-
  Texts of one proof, joined: part 6. No condition.
-/
import Derived.Test.YtakokckokchacaaMe5
import Derived.Test.YtakokckokchacaaProg
import Derived.Shelf.SortM.Plain
import Derived.Shelf.SortM.SortNone
import Derived.Shelf.SlicesG.CompactS
import Derived.Ground.SlgmProg
import Derived.Ground.SlgnProg
import Derived.Sort.OwnSorted
import Derived.Lib.OwnBridge
import Derived.Sort.Walk0
namespace Go.Proofs.Ytakokckokchacaa
open Go.RowKit
set_option linter.unusedVariables false
variable {B : Nat} {w0 : World} {F : List Ch}
theorem wordAt_stop (T : List UInt8) (m : Nat) (hm : m ≤ 24) (hp : ∀ x ∈ T.take m, small x ≠ 0) (hs : m = T.length ∨ (∃ c, T[m]? = some c ∧ small c = 0) ∨ m = 24) : wordAt T = (T.take m).map small := by
  have e : T = T.take m ++ T.drop m := (List.take_append_drop m T).symm
  have hp' : ∀ x ∈ T.take m, (fun c : UInt8 => decide (small c ≠ 0)) x = true := fun x hx => decide_eq_true (hp x hx)
  have key : T.takeWhile (fun c => decide (small c ≠ 0)) = T.take m ++ (T.drop m).takeWhile (fun c => decide (small c ≠ 0)) := by
    conv => lhs; rw [e]
    rw [List.takeWhile_append_of_pos hp']
  unfold wordAt
  rw [key, List.map_append]
  have hml : ((T.take m).map small).length ≤ 24 := by simp; omega
  rcases hs with h | ⟨c, h, h0⟩ | h
  · have : T.drop m = [] := by rw [h]; exact List.drop_length
    rw [this, List.takeWhile_nil, List.map_nil, List.append_nil]
    exact List.take_of_length_le hml
  · have hd : T.drop m = c :: T.drop (m + 1) := by
      obtain ⟨hlt, rfl⟩ := List.getElem?_eq_some_iff.1 h
      exact List.drop_eq_getElem_cons hlt
    rw [hd, List.takeWhile_cons, if_neg (by simp [h0]), List.map_nil, List.append_nil]
    exact List.take_of_length_le hml
  · subst h
    rcases Nat.lt_or_ge T.length 24 with h | h
    · have : T.drop 24 = [] := List.drop_eq_nil_of_le (by omega)
      rw [this, List.takeWhile_nil, List.map_nil, List.append_nil]
      exact List.take_of_length_le hml
    · have hl : ((T.take 24).map small).length = 24 := by simp; omega
      rw [List.take_append_of_le_length (by omega), List.take_of_length_le (by omega)]
/-- the document's place: what was found, and whether a letter stands before -/
def RefAt (l : List UInt8) (i : Nat) (OUT : List (List UInt8)) (prev : Bool) : Prop :=
  OUT ++ refW prev (l.drop i) = refW false l ∧ (i = 0 → prev = false) ∧ (∀ c, 0 < i → l[i - 1]? = some c → prev = decide (small c ≠ 0)) ∧ OUT.length ≤ i
theorem RefAt.start (l : List UInt8) : RefAt l 0 [] false := ⟨rfl, fun _ => rfl, fun _ h => absurd h (by omega), Nat.le_refl _⟩
theorem RefAt.skip {l : List UInt8} {i : Nat} {OUT : List (List UInt8)} {prev : Bool} {c : UInt8} (h : RefAt l i OUT prev) (hc : l[i]? = some c) (hs : small c = 0 ∨ prev = true) : RefAt l (i + 1) OUT (decide (small c ≠ 0)) := by
  obtain ⟨hlt, rfl⟩ := List.getElem?_eq_some_iff.1 hc
  refine ⟨?_, fun h => by omega, fun c' _ hc' => ?_, by have := h.2.2.2; omega⟩
  · have := h.1
    rw [List.drop_eq_getElem_cons hlt, refW, if_pos hs] at this
    exact this
  · rw [Nat.add_sub_cancel, hc] at hc'
    injection hc' with hc'
    rw [hc']
theorem RefAt.put {l : List UInt8} {i : Nat} {OUT : List (List UInt8)} {prev : Bool} {c : UInt8} (h : RefAt l i OUT prev) (hc : l[i]? = some c) (hs : small c ≠ 0) (hp : prev = false) : RefAt l (i + 1) (OUT ++ [wordAt (l.drop i)]) (decide (small c ≠ 0)) := by
  obtain ⟨hlt, rfl⟩ := List.getElem?_eq_some_iff.1 hc
  refine ⟨?_, fun h => by omega, fun c' _ hc' => ?_, by have := h.2.2.2; simp; omega⟩
  · have := h.1
    rw [List.drop_eq_getElem_cons hlt, refW, if_neg (by simp [hs, hp])] at this
    rw [← this, List.append_assoc, decide_eq_true hs, List.drop_eq_getElem_cons hlt]
    rfl
  · rw [Nat.add_sub_cancel, hc] at hc'
    injection hc' with hc'
    rw [hc']
theorem RefAt.done {l : List UInt8} {OUT : List (List UInt8)} {prev : Bool} (h : RefAt l l.length OUT prev) : OUT = wordsL l := by
  have := h.1
  rw [List.drop_length] at this
  rw [words_ref, ← this]
  simp [refW]
/-- inside: the letters taken from place i on -/
def TakenAt (l : List UInt8) (i m : Nat) (R : List UInt8) : Prop := R = ((l.drop i).take m).map small ∧ ∀ x ∈ (l.drop i).take m, small x ≠ 0
theorem TakenAt.more {l : List UInt8} {i m : Nat} {R : List UInt8} {c : UInt8} (h : TakenAt l i m R) (hc : l[i + m]? = some c) (hs : small c ≠ 0) : TakenAt l i (m + 1) (R ++ [small c]) := by
  have e : (l.drop i).take (m + 1) = (l.drop i).take m ++ [c] := by
    rw [List.take_add_one, List.getElem?_drop, hc]; rfl
  refine ⟨by rw [e, List.map_append, ← h.1]; rfl, fun x hx => ?_⟩
  rw [e] at hx
  rcases List.mem_append.1 hx with hx | hx
  · exact h.2 x hx
  · simp at hx; subst hx; exact hs
theorem TakenAt.len {l : List UInt8} {i m : Nat} {R : List UInt8} (h : TakenAt l i m R) (hm : i + m ≤ l.length) : R.length = m := by
  rw [h.1]; simp; omega
theorem TakenAt.stop {l : List UInt8} {i m : Nat} {R : List UInt8} (h : TakenAt l i m R) (hm : m ≤ 24) (hi : i + m ≤ l.length) (hs : i + m = l.length ∨ (∃ c, l[i + m]? = some c ∧ small c = 0) ∨ m = 24) : R = wordAt (l.drop i) := by
  rw [h.1, wordAt_stop _ m hm h.2]
  rcases hs with h | ⟨c, h1, h2⟩ | h
  · left; simp; omega
  · right; left; exact ⟨c, by rw [List.getElem?_drop]; exact h1, h2⟩
  · right; right; exact h

theorem RefAt.test {l : List UInt8} {k : Nat} {OUT : List (List UInt8)} {prev : Bool} (h : RefAt l k OUT prev) (hk : k ≤ l.length) : prev = decide (0 < k ∧ small (l.getD (k - 1) 0) ≠ 0) := by
  rcases Nat.eq_zero_or_pos k with h0 | h0
  · rw [h.2.1 h0, decide_eq_false (by omega)]
  · have hlt : k - 1 < l.length := by omega
    rw [h.2.2.1 (l.getD (k - 1) 0) h0 (by rw [List.getElem?_eq_getElem hlt]; simp [List.getD, List.getElem?_eq_getElem hlt])]
    simp [h0]
theorem get_getD {l : List UInt8} {k : Nat} (h : k < l.length) : l[k]? = some (l.getD k 0) := by
  rw [List.getElem?_eq_getElem h]; simp [List.getD, List.getElem?_eq_getElem h]
theorem TakenAt.stop' {l : List UInt8} {i m : Nat} {R : List UInt8} (h : TakenAt l i m R) (hm : m ≤ 24) (hi : i + m ≤ l.length) (hs : ¬ ((i + m < l.length ∧ small (l.getD (i + m) 0) ≠ 0) ∧ m < 24)) : R = wordAt (l.drop i) := by
  refine h.stop hm hi ?_
  by_cases h1 : i + m < l.length
  · by_cases h2 : small (l.getD (i + m) 0) = 0
    · exact .inr (.inl ⟨_, get_getD h1, h2⟩)
    · exact .inr (.inr (Nat.le_antisymm hm (Nat.le_of_not_lt fun h => hs ⟨⟨h1, h2⟩, h⟩)))
  · exact .inl (by omega)
set_option maxHeartbeats 400000 in
theorem rwords_d (l : List UInt8) (hl : l.length ≤ 274877906944) : Does Try.prog B w0 53 [.string ⟨l.toArray⟩] F (fun r L => ∃ A c, r = .slice A (wordsL l).length c ∧ L = .own 9 1 A (wordsL l).length c (strs (wordsL l)) :: F) := by
  refine fn_walk Try.func53 62 rfl rfl rfl [(0, .string ⟨l.toArray⟩)] ⟨⟨rfl, rfl⟩, trivial⟩ ?_
  refine vc_seq ?_
  refine vc_region ?_
  refine vl_det (det_assign rfl) rfl ?_
  refine vl_end [(0, _)] ⟨rfl, trivial⟩ ?_
  refine then_next ?_
  refine vc_seq ?_
  refine vc_region ?_
  refine vl_det (det_assign rfl) rfl ?_
  refine vl_end [(0, _), (3, _)] ⟨rfl, rfl, trivial⟩ ?_
  refine then_next ?_
  refine vc_seq ?_
  refine vc_seq ?_
  refine vc_region ?_
  refine vl_det (det_assign rfl) rfl ?_
  refine vl_end [(0, _), (3, _), (4, _)] ⟨rfl, rfl, rfl, trivial⟩ ?_
  refine then_next ?_
  refine vc_block ?_
  refine vc_nil_row 9 1 none ?_
  refine vc_loopJ (fun zf zL zm => ∃ (k n : Nat) (OUT : List (List UInt8)) (prev : Bool) (A : Option Addr) (c : Nat), (k ≤ l.length ∧ RefAt l k OUT prev ∧ n = OUT.length) ∧ l.length - k = zm ∧ Sub zf [(0, .string ⟨l.toArray⟩), (3, .slice A n c), (4, .int .i64 k)] ∧ Wk zL (.own 9 1 A n c (strs OUT) :: F)) _ ⟨0, 0, [], false, none, 0, ⟨Nat.zero_le _, RefAt.start l, rfl⟩, rfl, ⟨(by first | rfl | exact int_to (by omega) | exact sl_to (by omega)), (by first | rfl | exact int_to (by omega) | exact sl_to (by omega)), (by first | rfl | exact int_to (by omega) | exact sl_to (by omega)), trivial⟩, .refl _⟩ ?_
  rintro _ _ _ ⟨k, n, OUT, prev, A, c, ⟨hk, hR, hn⟩, rfl, hs, hp⟩
  refine vc_weaken _ hs (vc_wk hp ?_)
  clear hs hp
  have hol := hR.2.2.2
  refine vc_seq ?_
  refine vc_seq ?_
  refine vc_region ?_
  refine vl_det (det_move rfl) rfl ?_
  refine vl_det (det_move rfl) rfl ?_
  refine vl_det (det_len_s Try.underlying9 rfl) rfl ?_
  refine vl_det (det_lss rfl rfl) rfl ?_
  refine vl_end [(0, _), (3, _), (4, _), (10, _)] ⟨rfl, rfl, rfl, rfl, trivial⟩ ?_
  refine then_next ?_
  refine vc_decideU rfl (fun h10 => ?_) (fun h10 => ?_)
  · skip
    refine vc_skip ?_
    refine then_next ?_
    refine vc_seq ?_
    refine vc_block ?_
    refine vc_seq ?_
    refine vc_seq ?_
    refine vc_region ?_
    refine vl_cut 17 29 [(0, _), (3, _), (4, _)] (small (l.getD k 0) = 0 ∨ (0 < k ∧ small (l.getD (k - 1) 0) ≠ 0)) ⟨rfl, rfl, rfl, trivial⟩ ?_ ?_
    · skip
      refine vl_det (det_move rfl) rfl ?_
      refine vl_det (det_move rfl) rfl ?_
      refine vl_det (det_at_str Try.underlying9 rfl rfl rfl (by omega)) rfl ?_
      refine vl_call co72 rfl (rsmall_d _) rfl ?_
      rintro _ _ ⟨rfl, hLL⟩
      obtain rfl := hLL.symm
      refine vl_det (det_eql rfl rfl) rfl ?_
      refine vl_det (det_move rfl) rfl ?_
      refine vl_guardn rfl rfl rfl (fun h18 => ?_) (fun h18 => ?_)
      · skip
        refine vl_det (det_move rfl) rfl ?_
        refine vl_guard_t rfl rfl ?_
        refine vl_det (det_gtr rfl rfl) rfl ?_
        refine vl_guard_t rfl rfl ?_
        refine vl_det (det_move rfl) rfl ?_
        refine vl_guardp rfl rfl rfl (fun h21 => ?_) (fun h21 => ?_)
        · skip
          refine vl_det (det_move rfl) rfl ?_
          refine vl_guard_t rfl rfl ?_
          refine vl_det (det_move rfl) rfl ?_
          refine vl_guard_t rfl rfl ?_
          refine vl_det (det_sub rfl rfl (w_i64 (by omega) (by omega))) rfl ?_
          refine vl_guard_t rfl rfl ?_
          refine vl_det (det_at_str (i := k - 1) Try.underlying9 rfl rfl (by omega) (by omega)) rfl ?_
          refine vl_guard_t rfl rfl ?_
          refine vl_call co72 rfl (rsmall_d _) rfl ?_
          rintro _ _ ⟨rfl, hLL⟩
          obtain rfl := hLL.symm
          refine vl_guard_t rfl rfl ?_
          refine vl_det (det_neq rfl rfl) rfl ?_
          refine vl_guard_t rfl rfl ?_
          refine vl_det (det_pick_t rfl rfl) rfl ?_
          refine vl_det (det_pick_f rfl rfl) rfl ?_
          exact vl_cut_end ⟨rfl, rfl, rfl, trivial⟩ (by first | rfl | exact bool_to_t (by first | omega | (simp only [← UInt8.toNat_inj, ne_eq] at *; simp at *; omega)) | exact bool_to_f (by first | omega | (simp only [← UInt8.toNat_inj, ne_eq] at *; simp at *; omega)) | exact bool_to (by first | omega | (simp only [← UInt8.toNat_inj, ne_eq] at *; simp at *; omega)) | exact bool_to_b (by first | omega | (simp only [← UInt8.toNat_inj, ne_eq] at *; simp at *; omega)))
        · skip
          refine vl_guard_f rfl rfl rfl rfl ?_
          refine vl_guard_f rfl rfl rfl rfl ?_
          refine vl_guard_f rfl rfl rfl rfl ?_
          refine vl_guard_f rfl rfl rfl rfl ?_
          refine vl_guard_f rfl rfl rfl rfl ?_
          refine vl_guard_t rfl rfl ?_
          refine vl_det (det_pick_f rfl rfl) rfl ?_
          refine vl_det (det_pick_f rfl rfl) rfl ?_
          exact vl_cut_end ⟨rfl, rfl, rfl, trivial⟩ (by first | rfl | exact bool_to_t (by first | omega | (simp only [← UInt8.toNat_inj, ne_eq] at *; simp at *; omega)) | exact bool_to_f (by first | omega | (simp only [← UInt8.toNat_inj, ne_eq] at *; simp at *; omega)) | exact bool_to (by first | omega | (simp only [← UInt8.toNat_inj, ne_eq] at *; simp at *; omega)) | exact bool_to_b (by first | omega | (simp only [← UInt8.toNat_inj, ne_eq] at *; simp at *; omega)))
      · skip
        refine vl_guard_f rfl rfl rfl rfl ?_
        refine vl_guard_f rfl rfl rfl rfl ?_
        refine vl_guard_u rfl rfl rfl ?_
        refine vl_guard_u rfl rfl rfl ?_
        refine vl_guard_u rfl rfl rfl ?_
        refine vl_guard_u rfl rfl rfl ?_
        refine vl_guard_u rfl rfl rfl ?_
        refine vl_guard_u rfl rfl rfl ?_
        refine vl_guard_f rfl rfl rfl rfl ?_
        refine vl_det (det_pick_t rfl rfl) rfl ?_
        exact vl_cut_end ⟨rfl, rfl, rfl, trivial⟩ (by first | rfl | exact bool_to_t (by first | omega | (simp only [← UInt8.toNat_inj, ne_eq] at *; simp at *; omega)) | exact bool_to_f (by first | omega | (simp only [← UInt8.toNat_inj, ne_eq] at *; simp at *; omega)) | exact bool_to (by first | omega | (simp only [← UInt8.toNat_inj, ne_eq] at *; simp at *; omega)) | exact bool_to_b (by first | omega | (simp only [← UInt8.toNat_inj, ne_eq] at *; simp at *; omega)))
    · skip
      refine vl_end [(0, _), (3, _), (4, _), (29, _)] ⟨rfl, rfl, rfl, rfl, trivial⟩ ?_
      refine then_next ?_
      refine vc_decideU rfl (fun h29 => ?_) (fun h29 => ?_)
      · skip
        have hprev := hR.test hk
        refine vc_exit ?_
        refine then_exit ?_
        refine in_eq ?_
        refine then_next ?_
        refine vc_region ?_
        refine vl_det (det_move rfl) rfl ?_
        refine vl_det (det_add rfl rfl (w_i64 (by omega) (by omega))) rfl ?_
        refine vl_det (det_assign rfl) rfl ?_
        refine vl_end [(0, _), (3, _), (4, _)] ⟨rfl, rfl, rfl, trivial⟩ ?_
        refine in_loop_ ⟨_, by omega, k + 1, n, OUT, _, A, c, ⟨by omega, hR.skip (get_getD (by omega)) (by rw [hprev]; simpa using h29), hn⟩, rfl, ⟨(by first | rfl | exact int_to (by omega) | exact sl_to (by omega)), (by first | rfl | exact int_to (by omega) | exact sl_to (by omega)), (by first | rfl | exact int_to (by omega) | exact sl_to (by omega)), trivial⟩, .refl _⟩
      · skip
        refine vc_skip ?_
        refine then_next ?_
        refine vc_seq ?_
        refine vc_region ?_
        refine vl_det (det_assign rfl) rfl ?_
        refine vl_end [(0, _), (3, _), (4, _), (5, _)] ⟨rfl, rfl, rfl, rfl, trivial⟩ ?_
        refine then_next ?_
        refine vc_seq ?_
        refine vc_seq ?_
        refine vc_region ?_
        refine vl_det (det_move rfl) rfl ?_
        refine vl_det (det_assign rfl) rfl ?_
        refine vl_end [(0, _), (3, _), (4, _), (5, _), (6, _)] ⟨rfl, rfl, rfl, rfl, rfl, trivial⟩ ?_
        refine then_next ?_
        refine vc_block ?_
        refine vc_nil_row 5 1 none ?_
        refine vc_loopJ (fun zf zL zm => ∃ (m : Nat) (R : List UInt8) (A2 : Option Addr) (c2 : Nat), (m ≤ 24 ∧ k + m ≤ l.length ∧ TakenAt l k m R) ∧ l.length - (k + m) = zm ∧ Sub zf [(0, .string ⟨l.toArray⟩), (3, .slice A n c), (4, .int .i64 k), (5, .slice A2 m c2), (6, .int .i64 ((k + m : Nat) : Int))] ∧ Wk zL (.own 5 1 A2 m c2 (bv R) :: .own 9 1 A n c (strs OUT) :: F)) _ ⟨0, [], none, 0, ⟨by omega, by omega, rfl, by simp⟩, rfl, ⟨(by first | rfl | exact int_to (by omega) | exact sl_to (by omega)), (by first | rfl | exact int_to (by omega) | exact sl_to (by omega)), (by first | rfl | exact int_to (by omega) | exact sl_to (by omega)), (by first | rfl | exact int_to (by omega) | exact sl_to (by omega)), (by first | rfl | exact int_to (by omega) | exact sl_to (by omega)), trivial⟩, .refl _⟩ ?_
        rintro _ _ _ ⟨m, R, A2, c2, ⟨hm, hkm, hT⟩, rfl, hs, hp⟩
        refine vc_weaken _ hs (vc_wk hp ?_)
        clear hs hp
        refine vc_seq ?_
        refine vc_seq ?_
        refine vc_region ?_
        refine vl_cut 16 46 [(0, _), (3, _), (4, _), (5, _), (6, _)] ((k + m < l.length ∧ small (l.getD (k + m) 0) ≠ 0) ∧ m < 24) ⟨rfl, rfl, rfl, rfl, rfl, trivial⟩ ?_ ?_
        · skip
          refine vl_det (det_move rfl) rfl ?_
          refine vl_det (det_move rfl) rfl ?_
          refine vl_det (det_len_s Try.underlying9 rfl) rfl ?_
          refine vl_det (det_lss rfl rfl) rfl ?_
          refine vl_det (det_move rfl) rfl ?_
          refine vl_guardp rfl rfl rfl (fun h35 => ?_) (fun h35 => ?_)
          · skip
            refine vl_det (det_move rfl) rfl ?_
            refine vl_guard_t rfl rfl ?_
            refine vl_det (det_move rfl) rfl ?_
            refine vl_guard_t rfl rfl ?_
            refine vl_det (det_at_str Try.underlying9 rfl rfl rfl (by omega)) rfl ?_
            refine vl_guard_t rfl rfl ?_
            refine vl_call co72 rfl (rsmall_d _) rfl ?_
            rintro _ _ ⟨rfl, hLL⟩
            obtain rfl := hLL.symm
            refine vl_guard_t rfl rfl ?_
            refine vl_det (det_neq rfl rfl) rfl ?_
            refine vl_det (det_pick_t rfl rfl) rfl ?_
            refine vl_det (det_move rfl) rfl ?_
            refine vl_guardp rfl rfl rfl (fun h42 => ?_) (fun h42 => ?_)
            · skip
              refine vl_det (det_move rfl) rfl ?_
              refine vl_guard_t rfl rfl ?_
              refine vl_det (det_len_sl Try.underlying108 rfl) rfl ?_
              refine vl_guard_t rfl rfl ?_
              refine vl_det (det_lss rfl rfl) rfl ?_
              refine vl_det (det_pick_t rfl rfl) rfl ?_
              exact vl_cut_end ⟨rfl, rfl, rfl, rfl, rfl, trivial⟩ (by first | rfl | exact bool_to_t (by first | omega | (simp only [← UInt8.toNat_inj, ne_eq] at *; simp at *; omega)) | exact bool_to_f (by first | omega | (simp only [← UInt8.toNat_inj, ne_eq] at *; simp at *; omega)) | exact bool_to (by first | omega | (simp only [← UInt8.toNat_inj, ne_eq] at *; simp at *; omega)) | exact bool_to_b (by first | omega | (simp only [← UInt8.toNat_inj, ne_eq] at *; simp at *; omega)))
            · skip
              refine vl_guard_f rfl rfl rfl rfl ?_
              refine vl_guard_f rfl rfl rfl rfl ?_
              refine vl_det (det_pick_f rfl rfl) rfl ?_
              exact vl_cut_end ⟨rfl, rfl, rfl, rfl, rfl, trivial⟩ (by first | rfl | exact bool_to_t (by first | omega | (simp only [← UInt8.toNat_inj, ne_eq] at *; simp at *; omega)) | exact bool_to_f (by first | omega | (simp only [← UInt8.toNat_inj, ne_eq] at *; simp at *; omega)) | exact bool_to (by first | omega | (simp only [← UInt8.toNat_inj, ne_eq] at *; simp at *; omega)) | exact bool_to_b (by first | omega | (simp only [← UInt8.toNat_inj, ne_eq] at *; simp at *; omega)))
          · skip
            refine vl_guard_f rfl rfl rfl rfl ?_
            refine vl_guard_f rfl rfl rfl rfl ?_
            refine vl_guard_f rfl rfl rfl rfl ?_
            refine vl_guard_f rfl rfl rfl rfl ?_
            refine vl_det (det_pick_f rfl rfl) rfl ?_
            refine vl_det (det_move rfl) rfl ?_
            refine vl_guard_f rfl rfl rfl rfl ?_
            refine vl_guard_f rfl rfl rfl rfl ?_
            refine vl_guard_f rfl rfl rfl rfl ?_
            refine vl_det (det_pick_f rfl rfl) rfl ?_
            exact vl_cut_end ⟨rfl, rfl, rfl, rfl, rfl, trivial⟩ (by first | rfl | exact bool_to_t (by first | omega | (simp only [← UInt8.toNat_inj, ne_eq] at *; simp at *; omega)) | exact bool_to_f (by first | omega | (simp only [← UInt8.toNat_inj, ne_eq] at *; simp at *; omega)) | exact bool_to (by first | omega | (simp only [← UInt8.toNat_inj, ne_eq] at *; simp at *; omega)) | exact bool_to_b (by first | omega | (simp only [← UInt8.toNat_inj, ne_eq] at *; simp at *; omega)))
        · skip
          refine vl_end [(0, _), (3, _), (4, _), (5, _), (6, _), (46, _)] ⟨rfl, rfl, rfl, rfl, rfl, rfl, trivial⟩ ?_
          refine then_next ?_
          refine vc_decideU rfl (fun h46 => ?_) (fun h46 => ?_)
          · skip
            refine vc_skip ?_
            refine then_next ?_
            refine vc_seq ?_
            refine vc_block ?_
            refine vc_region ?_
            refine vl_det (det_move rfl) rfl ?_
            refine vl_det (det_move rfl) rfl ?_
            refine vl_det (det_move rfl) rfl ?_
            refine vl_det (det_at_str Try.underlying9 rfl rfl rfl (by omega)) rfl ?_
            refine vl_call co72 rfl (rsmall_d _) rfl ?_
            rintro _ _ ⟨rfl, hLL⟩
            obtain rfl := hLL.symm
            refine vl_push slT108 rfl rfl rfl rfl rfl (fun _ => rfl) (by repeat (first | exact .hd | apply Sel.tl)) (by omega) (by omega) ?_
            intro _ A55 c55
            refine vl_det (det_assign rfl) rfl ?_
            refine vl_end [(0, _), (3, _), (4, _), (5, _), (6, _)] ⟨rfl, rfl, rfl, rfl, rfl, trivial⟩ ?_
            refine in_normal ?_
            refine then_next ?_
            refine vc_region ?_
            refine vl_det (det_move rfl) rfl ?_
            refine vl_det (det_add rfl rfl (w_i64 (by omega) (by omega))) rfl ?_
            refine vl_det (det_assign rfl) rfl ?_
            refine vl_end [(0, _), (3, _), (4, _), (5, _), (6, _)] ⟨rfl, rfl, rfl, rfl, rfl, trivial⟩ ?_
            refine in_loop_ ⟨_, by omega, m + 1, R ++ [small (l.getD (k + m) 0)], A55, c55, ⟨by omega, by omega, hT.more (get_getD (by omega)) h46.1.2⟩, rfl, ⟨(by first | rfl | exact int_to (by omega) | exact sl_to (by omega)), (by first | rfl | exact int_to (by omega) | exact sl_to (by omega)), (by first | rfl | exact int_to (by omega) | exact sl_to (by omega)), (by first | rfl | exact int_to (by omega) | exact sl_to (by omega)), (by first | rfl | exact int_to (by omega) | exact sl_to (by omega)), trivial⟩, wk_own rfl (by simp [bv]) (.refl _)⟩
          · skip
            refine vc_exit ?_
            refine then_exit ?_
            refine loop_exit ?_
            refine in_eq ?_
            refine then_next ?_
            refine vc_region ?_
            refine vl_det (det_move rfl) rfl ?_
            refine vl_det (det_move rfl) rfl ?_
            refine vl_det (det_bstr Try.underlying108 Try.underlying5 Try.underlying9 rfl (by first | (exact Bor.own (by repeat (first | exact List.Mem.head _ | apply List.Mem.tail))) | (repeat (first | assumption | apply Bor.cons)))) rfl ?_
            refine vl_push slT39 rfl rfl rfl rfl rfl (fun _ => rfl) (by repeat (first | exact .hd | apply Sel.tl)) (by omega) (by omega) ?_
            intro _ A60 c60
            refine vl_det (det_assign rfl) rfl ?_
            refine vl_end [(0, _), (3, _), (4, _)] ⟨rfl, rfl, rfl, trivial⟩ ?_
            refine in_normal ?_
            refine then_next ?_
            refine vc_region ?_
            refine vl_det (det_move rfl) rfl ?_
            refine vl_det (det_add rfl rfl (w_i64 (by omega) (by omega))) rfl ?_
            refine vl_det (det_assign rfl) rfl ?_
            refine vl_end [(0, _), (3, _), (4, _)] ⟨rfl, rfl, rfl, trivial⟩ ?_
            have hprev := hR.test hk
            have hst := hT.stop' hm hkm h46
            have hput := hR.put (c := l.getD k 0) (get_getD (by omega)) (fun e => h29 (.inl e)) (by rw [hprev]; exact decide_eq_false (fun e => h29 (.inr e)))
            rw [← hst] at hput
            refine in_loop_ ⟨_, by omega, k + 1, n + 1, OUT ++ [R], _, A60, c60, ⟨by omega, hput, by simp [hn]⟩, rfl, ⟨(by first | rfl | exact int_to (by omega) | exact sl_to (by omega)), (by first | rfl | exact int_to (by omega) | exact sl_to (by omega)), (by first | rfl | exact int_to (by omega) | exact sl_to (by omega)), trivial⟩, .skip (wk_own rfl (by simp [strs]) (.refl _))⟩
  · skip
    refine vc_exit ?_
    refine then_exit ?_
    refine loop_exit ?_
    refine in_eq ?_
    refine then_next ?_
    refine vc_seq ?_
    refine vc_region ?_
    refine vl_det (det_move rfl) rfl ?_
    refine vl_det (det_assign rfl) rfl ?_
    refine vl_end [(2, _)] ⟨rfl, trivial⟩ ?_
    refine then_next ?_
    refine vc_ret ?_
    refine ret1 rfl rfl ?_
    have hkl : k = l.length := by omega
    subst hkl
    have hd := hR.done
    subst hd
    subst hn
    exact ⟨A, c, rfl, rfl⟩
end Go.Proofs.Ytakokckokchacaa
namespace Go.Proofs.Ytakokckokchacaa
set_option linter.unusedVariables false
/-- a word of a text -/
theorem small_small : ∀ c : UInt8, small (small c) = small c := by
  have : ∀ x : Fin 256, small (small (UInt8.ofNat x.val)) = small (UInt8.ofNat x.val) := by decide +kernel
  intro c
  have := this ⟨c.toNat, c.toNat_lt⟩
  simpa using this
def RowOk (t : List UInt8) : Prop := ∀ c ∈ t, small c ≠ 0 ∧ small c = c
def WordOk (t : List UInt8) : Prop := 1 ≤ t.length ∧ t.length ≤ 24 ∧ RowOk t
theorem emit_ok {row : List UInt8} (h : RowOk row) : ∀ t ∈ emit row, WordOk t := by
  intro t ht
  unfold emit at ht
  split at ht
  · cases ht
  · rename_i hne
    simp at ht; subst ht
    have := List.length_pos_iff.2 hne
    exact ⟨by simp; omega, by simp; omega, fun c hc => h c (List.mem_of_mem_take hc)⟩
theorem wst_ok : ∀ (l : List UInt8) (ws : List (List UInt8)) (row : List UInt8), (∀ t ∈ ws, WordOk t) → RowOk row → (∀ t ∈ (l.foldl wstep (ws, row)).1, WordOk t) ∧ RowOk (l.foldl wstep (ws, row)).2
  | [], ws, row, h1, h2 => ⟨h1, h2⟩
  | c :: r, ws, row, h1, h2 => by
    rw [List.foldl_cons]
    by_cases hc : small c = 0
    case neg =>
      rw [wstep_yes hc]
      refine wst_ok r ws _ h1 fun x hx => ?_
      rcases List.mem_append.1 hx with hx | hx
      · exact h2 x hx
      · simp only [List.mem_singleton] at hx
        subst hx
        rw [small_small]; exact ⟨hc, rfl⟩
    case pos =>
      rw [wstep_no hc]
      refine wst_ok r _ [] (fun t ht => ?_) (fun x hx => by cases hx)
      rcases List.mem_append.1 ht with ht | ht
      · exact h1 t ht
      · exact emit_ok h2 t ht
theorem word_ok {l t : List UInt8} (h : t ∈ wordsL l) : WordOk t := by
  have := wst_ok l [] [] (by simp) (fun x hx => by cases hx)
  rcases List.mem_append.1 h with h | h
  · exact this.1 t h
  · exact emit_ok this.2 t h
end Go.Proofs.Ytakokckokchacaa
namespace Go.Proofs
open Go.RowKit Go.Maps Go.Sort Go.Shelf
def Try.sortS_ren : Go.Shelf.Ren := ⟨fun | 6 => 33 | 8 => 49 | 9 => 48 | 19 => 68 | 20 => 69 | 21 => 59 | 22 => 60 | 23 => 61 | 24 => 62 | 25 => 63 | 26 => 64 | 27 => 65 | 28 => 66 | 29 => 67 | 36 => 78 | 31 => 79 | 32 => 80 | 37 => 81 | 38 => 82 | 39 => 83 | 41 => 85 | n => n, fun | 27 => 39 | 29 => 9 | 3 => 3 | 32 => 91 | 26 => 39 | 0 => 0 | 44 => 106 | 46 => 36 | 4 => 4 | 36 => 99 | 35 => 98 | 41 => 103 | 5 => 5 | 9 => 9 | 53 => 116 | 57 => 120 | 63 => 123 | 64 => 124 | n => n, fun | n => n⟩
theorem Try.sortS : Go.Proofs.SlLaysM.n6 Try.prog Try.sortS_ren := {
  mixed := by kernel_rfl
  f6 := ⟨Try.f33.name, by decide, Try.func33.trans (congrArg some (by kernel_rfl))⟩
  f8 := Try.func49.trans (congrArg some (by kernel_rfl))
  f9 := ⟨Try.f48.name, by decide, Try.func48.trans (congrArg some (by kernel_rfl))⟩
  f19 := Try.func68.trans (congrArg some (by kernel_rfl))
  f20 := Try.func69.trans (congrArg some (by kernel_rfl))
  f21 := ⟨Try.f59.name, by decide, Try.func59.trans (congrArg some (by kernel_rfl))⟩
  f22 := ⟨Try.f60.name, by decide, Try.func60.trans (congrArg some (by kernel_rfl))⟩
  f23 := ⟨Try.f61.name, by decide, Try.func61.trans (congrArg some (by kernel_rfl))⟩
  f24 := ⟨Try.f62.name, by decide, Try.func62.trans (congrArg some (by kernel_rfl))⟩
  f25 := ⟨Try.f63.name, by decide, Try.func63.trans (congrArg some (by kernel_rfl))⟩
  f26 := ⟨Try.f64.name, by decide, Try.func64.trans (congrArg some (by kernel_rfl))⟩
  f27 := ⟨Try.f65.name, by decide, Try.func65.trans (congrArg some (by kernel_rfl))⟩
  f28 := ⟨Try.f66.name, by decide, Try.func66.trans (congrArg some (by kernel_rfl))⟩
  f29 := ⟨Try.f67.name, by decide, Try.func67.trans (congrArg some (by kernel_rfl))⟩
  f31 := Try.func79.trans (congrArg some (by kernel_rfl))
  f32 := Try.func80.trans (congrArg some (by kernel_rfl))
  f36 := ⟨Try.f78.name, by decide, Try.func78.trans (congrArg some (by kernel_rfl))⟩
  f37 := ⟨Try.f81.name, by decide, Try.func81.trans (congrArg some (by kernel_rfl))⟩
  f38 := ⟨Try.f82.name, by decide, Try.func82.trans (congrArg some (by kernel_rfl))⟩
  f39 := ⟨Try.f83.name, by decide, Try.func83.trans (congrArg some (by kernel_rfl))⟩
  f41 := ⟨Try.f85.name, by decide, Try.func85.trans (congrArg some (by kernel_rfl))⟩
  t0 := Try.underlying0
  a0 := Try.isAgg0
  z0 := Try.sizeOf0
  v0 := Try.zeroValue0
  t3 := Try.underlying3
  a3 := Try.isAgg3
  z3 := Try.sizeOf3
  v3 := Try.zeroValue3
  t4 := Try.underlying4
  a4 := Try.isAgg4
  z4 := Try.sizeOf4
  v4 := Try.zeroValue4
  t5 := Try.underlying5
  a5 := Try.isAgg5
  z5 := Try.sizeOf5
  v5 := Try.zeroValue5
  t9 := Try.underlying9
  a9 := Try.isAgg9
  z9 := Try.sizeOf9
  v9 := Try.zeroValue9
  t26 := Try.underlying39
  a26 := Try.isAgg39
  z26 := Try.sizeOf39
  v26 := Try.zeroValue39
  t27 := Try.underlying39
  a27 := Try.isAgg39
  z27 := Try.sizeOf39
  v27 := Try.zeroValue39
  t29 := Try.underlying9
  a29 := Try.isAgg9
  z29 := Try.sizeOf9
  v29 := Try.zeroValue9
  t32 := Try.underlying91
  a32 := Try.isAgg91
  z32 := Try.sizeOf91
  v32 := Try.zeroValue91
  t35 := Try.underlying98
  a35 := Try.isAgg98
  z35 := Try.sizeOf98
  v35 := Try.zeroValue98
  t36 := Try.underlying99
  a36 := Try.isAgg99
  z36 := Try.sizeOf99
  v36 := Try.zeroValue99
  t41 := Try.underlying103
  a41 := Try.isAgg103
  z41 := Try.sizeOf103
  v41 := Try.zeroValue103
  t44 := Try.underlying106
  a44 := Try.isAgg106
  z44 := Try.sizeOf106
  v44 := Try.zeroValue106
  t46 := Try.underlying36
  a46 := Try.isAgg36
  z46 := Try.sizeOf36
  v46 := Try.zeroValue36
  t53 := Try.underlying116
  a53 := Try.isAgg116
  z53 := Try.sizeOf116
  v53 := Try.zeroValue116
  t57 := Try.underlying120
  a57 := Try.isAgg120
  z57 := Try.sizeOf120
  v57 := Try.zeroValue120
  t63 := Try.underlying123
  a63 := Try.isAgg123
  z63 := Try.sizeOf123
  v63 := Try.zeroValue123
  t64 := Try.underlying124
  a64 := Try.isAgg124
  z64 := Try.sizeOf124
  v64 := Try.zeroValue124 }
def Try.compS_ren : Go.Shelf.Ren := ⟨fun | 44 => 34 | n => n, fun | 25 => 39 | 26 => 9 | 3 => 3 | 4 => 4 | 0 => 0 | n => n, fun | n => n⟩
theorem Try.compS : Go.Proofs.SlLaysN.n44 Try.prog Try.compS_ren := {
  mixed := by kernel_rfl
  f44 := ⟨Try.f34.name, by decide, Try.func34.trans (congrArg some (by kernel_rfl))⟩
  t0 := Try.underlying0
  a0 := Try.isAgg0
  z0 := Try.sizeOf0
  v0 := Try.zeroValue0
  t3 := Try.underlying3
  a3 := Try.isAgg3
  z3 := Try.sizeOf3
  v3 := Try.zeroValue3
  t4 := Try.underlying4
  a4 := Try.isAgg4
  z4 := Try.sizeOf4
  v4 := Try.zeroValue4
  t25 := Try.underlying39
  a25 := Try.isAgg39
  z25 := Try.sizeOf39
  v25 := Try.zeroValue39
  t26 := Try.underlying9
  a26 := Try.isAgg9
  z26 := Try.sizeOf9
  v26 := Try.zeroValue9
  i26 := by kernel_rfl }
namespace Ytakokckokchacaa
set_option linter.unusedVariables false
variable {B : Nat} {w0 : World} {F : List Ch} {A : Option Addr} {c : Nat}
def leS (x y : List UInt8) : Bool := decide (x ≤ y)
theorem sort_d {l : List (List UInt8)} (hl : l.length < 4611686018427387904) :
    Does Try.prog B w0 33 [.slice A l.length c] (.own 9 1 A l.length c (strs l) :: F) (fun r L => r = .tuple #[] ∧ L = .own 9 1 A l.length c (strs (l.mergeSort leS)) :: F) := by
  intro w hw
  obtain ⟨k1, k2, k3⟩ := hw.head
  by_cases h0 : l.length = 0
  · have hl0 : l = [] := List.eq_nil_of_length_eq_zero h0
    subst hl0
    refine (AnyM.slices_Sort_string_none Try.sortS A c w).mono fun e w' ⟨he, hw'⟩ => ?_
    subst hw'
    exact ⟨_, _, he, ⟨rfl, by simp⟩, hw⟩
  · have hc0 : ¬ c = 0 := by omega
    obtain ⟨g, cur, rfl, hbg, hg, hm, hs, ht⟩ := k3.resolve_left hc0
    rw [Nat.mul_one] at ht
    refine (AnyM.slices_Sort_string Try.sortS g 0 c l w (holds_of_block hg ht) ((Array.getElem?_eq_some_iff.1 hg).1) hl).mono fun e w' ⟨he, n, os, hw'⟩ => ?_
    have hlen : (l.mergeSort fun x y => decide (x ≤ y)).length = l.length := List.length_mergeSort _
    have hfp : (Ch.own 9 1 (some ⟨g, 0, none⟩) l.length c (strs l)).fp = some g := by simp [Ch.fp, hc0]
    have hg2 := grownBy_sorted (w := w) (g := g) (n := n) (os := os) (l.mergeSort fun x y => decide (x ≤ y)).toArray
    rw [← hw'] at hg2
    refine ⟨_, _, he, ⟨rfl, rfl⟩, hw.turn (by rw [hfp]; exact hg2) ⟨?_, k2, .inr ⟨g, _, rfl, hbg, by rw [hw']; exact heap_sorted _ hg, hm, by simpa [putCells] using hs, ?_⟩⟩ (.inr (.inl (by simp [Ch.fp])))⟩
    · simp
    · rw [Nat.mul_one, ← hlen]
      exact take_putCells cur _ (by rw [hlen]; omega)
theorem compact_le (zs : List (List UInt8)) : (Lib.compact zs).length ≤ zs.length := by
  unfold Lib.compact Lib.compactUpTo
  rw [List.length_map]
  exact Nat.le_trans (List.length_filter_le _ _) (by simp)
theorem compact_d {l : List (List UInt8)} (hl : l.length < 4611686018427387904) :
    Does Try.prog B w0 34 [.slice A l.length c] (.own 9 1 A l.length c (strs l) :: F) (fun r L => r = .slice A (Lib.compact l).length c ∧ L = .own 9 1 A (Lib.compact l).length c (strs (Lib.compact l)) :: F) := by
  intro w hw
  obtain ⟨k1, k2, k3⟩ := hw.head
  have hle := compact_le l
  by_cases h0 : l.length = 0
  · have hl0 : l = [] := List.eq_nil_of_length_eq_zero h0
    subst hl0
    refine (AnyG.slices_Compact_string_empty Try.compS A c w).mono fun e w' ⟨he, hw'⟩ => ?_
    subst hw'
    exact ⟨_, _, he, ⟨rfl, by simp [Lib.compact, Lib.compactUpTo, strs]⟩, hw⟩
  · have hc0 : ¬ c = 0 := by omega
    obtain ⟨g, cur, rfl, hbg, hg, hm, hs, ht⟩ := k3.resolve_left hc0
    rw [Nat.mul_one] at ht
    refine (AnyG.slices_Compact_string Try.compS g 0 c l w (holds_of_block hg ht) (by omega) k2).mono fun e w' ⟨he, q, hw'⟩ => ?_
    obtain ⟨ys, hys⟩ : ∃ ys, ys = Lib.compact l ++ List.replicate (l.length - (Lib.compact l).length) [] := ⟨_, rfl⟩
    have hyl : ys.length = l.length := by rw [hys]; simp; omega
    rw [← hys] at hw'
    have hfp : (Ch.own 9 1 (some ⟨g, 0, none⟩) l.length c (strs l)).fp = some g := by simp [Ch.fp, hc0]
    have hg2 := grownBy_sorted (w := w) (g := g) (n := q) (os := #[]) ys.toArray
    have hh := heap_sorted (n := q) (os := #[]) ys.toArray hg
    rw [grow_empty, ← hw'] at hg2 hh
    refine ⟨_, _, he, ⟨rfl, rfl⟩, hw.turn (by rw [hfp]; exact hg2) ⟨by simp, by omega, .inr ⟨g, _, rfl, hbg, hh, hm, by simpa [putCells] using hs, ?_⟩⟩ (.inr (.inl (by simp [Ch.fp])))⟩
    have ht2 := take_putCells cur ys (by rw [hyl]; omega)
    have := congrArg (List.take (Lib.compact l).length) ht2
    rw [List.take_take, hyl, Nat.min_eq_left hle] at this
    rw [Nat.mul_one, this, ← List.map_take, hys, List.take_left]
    rfl
end Ytakokckokchacaa
end Go.Proofs
namespace Go.Proofs.Ytakokckokchacaa
open Go.RowKit
set_option linter.unusedVariables false
set_option maxRecDepth 20000
theorem ltT_iff (a b : Txt) : ltT a b ↔ a < b := by
  unfold ltT
  rw [bytesLess_eq]
  simp
/-- each text is below the next ones -/
def StT (l : List Txt) : Prop := l.Pairwise ltT
theorem StT.nil : StT [] := List.Pairwise.nil
theorem StT.ext : ∀ {a b : List Txt}, StT a → StT b → (∀ x, x ∈ a ↔ x ∈ b) → a = b
  | [], [], _, _, _ => rfl
  | [], y :: b, _, _, h => absurd ((h y).2 (by simp)) (by simp)
  | x :: a, [], _, _, h => absurd ((h x).1 (by simp)) (by simp)
  | x :: a, y :: b, ha, hb, h => by
    obtain ⟨ha1, ha2⟩ := List.pairwise_cons.1 ha
    obtain ⟨hb1, hb2⟩ := List.pairwise_cons.1 hb
    have hxy : x = y := by
      rcases List.mem_cons.1 ((h x).1 (by simp)) with e | e
      · exact e
      · rcases List.mem_cons.1 ((h y).2 (by simp)) with e2 | e2
        · exact e2.symm
        · exact absurd (ltT_trans (ha1 y e2) (hb1 x e)) (ltT_irrefl _)
    subst hxy
    congr 1
    refine StT.ext ha2 hb2 fun z => ⟨fun hz => ?_, fun hz => ?_⟩
    · rcases List.mem_cons.1 ((h z).1 (List.mem_cons_of_mem _ hz)) with e | e
      · subst e; exact absurd (ha1 _ hz) (ltT_irrefl _)
      · exact e
    · rcases List.mem_cons.1 ((h z).2 (List.mem_cons_of_mem _ hz)) with e | e
      · subst e; exact absurd (hb1 _ hz) (ltT_irrefl _)
      · exact e
/-! sorted, and runs made single -/
theorem leS_iff (a b : Txt) : leS a b = true ↔ ¬ ltT b a := by
  unfold leS
  rw [decide_eq_true_iff, ltT_iff]
  exact List.not_lt.symm
theorem sort_pw (l : List Txt) : (l.mergeSort leS).Pairwise (fun a b => ¬ ltT b a) := by
  have h := List.pairwise_mergeSort (le := leS) (fun a b c h1 h2 => by
    rw [leS_iff, not_ltT] at *
    exact h1.elim (fun h1 => .inl (ltT_leT h1 h2)) (fun h1 => h1 ▸ h2)) (fun a b => by
    rcases ltT_total a b with h | h | h
    · simp [(leS_iff a b).2 (fun k => ltT_irrefl _ (ltT_trans h k))]
    · subst h; simp [(leS_iff a a).2 (ltT_irrefl _)]
    · simp [(leS_iff b a).2 (fun k => ltT_irrefl _ (ltT_trans h k))]) l
  exact h.imp fun h => (leS_iff _ _).1 h
theorem comp_inv {l : List Txt} (hp : l.Pairwise (fun a b => ¬ ltT b a)) : ∀ m, m ≤ l.length → StT (Lib.compactUpTo l.toArray m) ∧ (∀ x, x ∈ Lib.compactUpTo l.toArray m ↔ x ∈ l.take m)
  | 0, _ => ⟨by simp [StT, Lib.compactUpTo], by simp [Lib.compactUpTo]⟩
  | m + 1, hm => by
    obtain ⟨h1, h2⟩ := comp_inv hp m (by omega)
    rw [Lib.compactUpTo_succ]
    have hlm : m < l.length := by omega
    have hg : l.toArray[m]! = l[m] := by simp [getElem!_pos, hlm]
    have htk : l.take (m + 1) = l.take m ++ [l[m]] := by rw [List.take_add_one, List.getElem?_eq_getElem hlm]; rfl
    by_cases hk : Lib.keeps l.toArray m = true
    · rw [if_pos hk, hg]
      have hkk : m = 0 ∨ l.toArray[m]! ≠ l.toArray[m - 1]! := by simpa [Lib.keeps] using hk
      refine ⟨?_, fun x => ?_⟩
      · refine List.pairwise_append.2 ⟨h1, List.pairwise_singleton _ _, fun a ha b hb => ?_⟩
        rw [List.mem_singleton] at hb
        subst hb
        have ha' := (h2 a).1 ha
        obtain ⟨i, hi, rfl⟩ := List.getElem_of_mem ha'
        rw [List.length_take] at hi
        rw [List.getElem_take]
        have hle : ∀ i j (hi : i < l.length) (hj : j < l.length), i < j → ¬ ltT l[j] l[i] := fun i j hi hj hij => List.pairwise_iff_getElem.1 hp i j hi hj hij
        have hm0 : m ≠ 0 := by omega
        have hne : l[m] ≠ l[m - 1]'(by omega) := by
          have := hkk.resolve_left hm0
          rw [hg] at this
          simpa [getElem!_pos, show m - 1 < l.length by omega] using this
        have hlt : ltT (l[m - 1]'(by omega)) l[m] := by
          rcases ltT_total (l[m - 1]'(by omega)) l[m] with h | h | h
          · exact h
          · exact absurd h.symm hne
          · exact absurd h (hle (m - 1) m (by omega) hlm (by omega))
        by_cases him : i = m - 1
        · subst him; exact hlt
        · exact leT_ltT (not_ltT.1 (hle i (m - 1) (by omega) (by omega) (by omega))) hlt
      · rw [htk, List.mem_append, List.mem_append, h2]
    · rw [if_neg hk, List.append_nil]
      refine ⟨h1, fun x => ?_⟩
      rw [htk, List.mem_append, h2, List.mem_singleton]
      refine ⟨.inl, fun h => h.elim id fun h => ?_⟩
      have hkk : ¬ (m = 0 ∨ l.toArray[m]! ≠ l.toArray[m - 1]!) := by simpa [Lib.keeps] using hk
      have hm0 : m ≠ 0 := fun h => hkk (.inl h)
      have he : l.toArray[m]! = l.toArray[m - 1]! := Classical.not_not.1 fun h => hkk (.inr h)
      rw [hg] at he
      have hg1 : l.toArray[m - 1]! = l[m - 1]'(by omega) := by simp [getElem!_pos, show m - 1 < l.length by omega]
      rw [hg1] at he
      rw [h, he]
      exact List.mem_take_iff_getElem.2 ⟨m - 1, by omega, rfl⟩
/-- a list's texts, each once, rising -/
def setT (l : List Txt) : List Txt := Lib.compact (l.mergeSort leS)
theorem setT_st (l : List Txt) : StT (setT l) := by
  have := (comp_inv (sort_pw l) (l.mergeSort leS).length (Nat.le_refl _)).1
  exact this
theorem setT_mem (l : List Txt) (x : Txt) : x ∈ setT l ↔ x ∈ l := by
  have := (comp_inv (sort_pw l) (l.mergeSort leS).length (Nat.le_refl _)).2 x
  rw [List.take_length, List.mem_mergeSort] at this
  exact this
theorem setT_len (l : List Txt) : (setT l).length ≤ l.length := by
  have := compact_le (l.mergeSort leS)
  rwa [List.length_mergeSort] at this
theorem setT_uniq {l r : List Txt} (h : StT r) (hm : ∀ x, x ∈ r ↔ x ∈ l) : setT l = r := StT.ext (setT_st l) h fun x => (setT_mem l x).trans (hm x).symm
/-- the document's: a text put into a rising list -/
def putL (l : List Txt) (s : Txt) : List Txt := setT (l ++ [s])
theorem StT.put {l : List Txt} (h : StT l) {s : Txt} {k : Nat} (hk : k ≤ l.length) (hlo : ∀ i, i < k → ltT (l.getD i []) s) (hhi : k < l.length → ¬ ltT (l.getD k []) s) :
    putL l s = if k < l.length ∧ l.getD k [] = s then l else l.take k ++ [s] ++ l.drop k := by
  have hgd : ∀ i (hi : i < l.length), l.getD i [] = l[i] := fun i hi => by simp [List.getD, List.getElem?_eq_getElem hi]
  split
  · rename_i he
    refine setT_uniq h fun x => ?_
    rw [List.mem_append, List.mem_singleton]
    refine ⟨.inl, fun hx => hx.elim id fun hx => ?_⟩
    rw [hx, ← he.2, hgd k he.1]
    exact List.getElem_mem _
  · rename_i hne
    refine setT_uniq ?_ fun x => ?_
    · have hlt : k < l.length → ltT s (l.getD k []) := fun hkl => by
        rcases ltT_total s (l.getD k []) with h | h | h
        · exact h
        · exact absurd ⟨hkl, h.symm⟩ hne
        · exact absurd h (hhi hkl)
      have hpw := List.pairwise_iff_getElem.1 h
      refine List.pairwise_append.2 ⟨List.pairwise_append.2 ⟨h.sublist (List.take_sublist _ _), List.pairwise_singleton _ _, fun a ha b hb => ?_⟩, h.sublist (List.drop_sublist _ _), fun a ha b hb => ?_⟩
      · rw [List.mem_singleton] at hb
        subst hb
        obtain ⟨i, hi, rfl⟩ := List.getElem_of_mem ha
        rw [List.length_take] at hi
        rw [List.getElem_take, ← hgd i (by omega)]
        exact hlo i (by omega)
      · obtain ⟨j, hj, rfl⟩ := List.getElem_of_mem hb
        rw [List.length_drop] at hj
        rw [List.getElem_drop]
        have hs : ltT s l[k + j] := by
          have h1 := hlt (by omega)
          rw [hgd k (by omega)] at h1
          rcases Nat.eq_zero_or_pos j with h0 | h0
          · subst h0; exact h1
          · exact ltT_trans h1 (hpw k (k + j) (by omega) (by omega) (by omega))
        rcases List.mem_append.1 ha with ha | ha
        · obtain ⟨i, hi, rfl⟩ := List.getElem_of_mem ha
          rw [List.length_take] at hi
          rw [List.getElem_take, ]
          exact hpw i (k + j) (by omega) (by omega) (by omega)
        · rw [List.mem_singleton] at ha
          subst ha; exact hs
    · rw [List.mem_append, List.mem_append, List.mem_append, List.mem_singleton]
      conv => rhs; rw [← List.take_append_drop k l, List.mem_append]
      constructor
      · rintro ((h | h) | h)
        · exact .inl (.inl h)
        · exact .inr h
        · exact .inl (.inr h)
      · rintro ((h | h) | h)
        · exact .inl (.inl h)
        · exact .inr h
        · exact .inl (.inr h)
/-- the texts whose set a record's terms are: of its text, of its source -/
def rawT (txt src : List UInt8) : List Txt := wordsL txt ++ (wordsL src).map (64 :: ·)
def termsL (txt src : List UInt8) : List Txt := setT (rawT txt src)
theorem rawT_len (txt src : List UInt8) : (rawT txt src).length ≤ txt.length + src.length := by
  have h1 := wordsL_len txt
  have h2 := wordsL_len src
  simp [rawT]; omega
end Go.Proofs.Ytakokckokchacaa
namespace Go.Proofs.Ytakokckokchacaa
open Go.RowKit
set_option linter.unusedVariables false
set_option maxRecDepth 20000
variable {B : Nat} {w0 : World} {F : List Ch} {A A1 A2 : Option Addr} {n c c1 c2 g : Nat}
theorem rputT_d {l : List Txt} (hS : StT l) (hl : l.length ≤ 1000000000000) (t : Txt) :
    Does Try.prog B w0 35 [.slice A l.length c, .string ⟨t.toArray⟩] (.own 9 1 A l.length c (strs l) :: F) (fun r L => ∃ A' c', r = .slice A' (putL l t).length c' ∧ L = .own 9 1 A' (putL l t).length c' (strs (putL l t)) :: F) := by
  refine fn_walk Try.func35 48 rfl rfl rfl [(0, .slice A l.length c), (1, .string ⟨t.toArray⟩)] ⟨⟨rfl, rfl⟩, ⟨rfl, rfl⟩, trivial⟩ ?_
  refine vc_seq ?_
  refine vc_region ?_
  refine vl_det (det_assign rfl) rfl ?_
  refine vl_end [(0, _), (1, _)] ⟨rfl, rfl, trivial⟩ ?_
  refine then_next ?_
  refine vc_seq ?_
  refine vc_region ?_
  refine vl_det (det_assign rfl) rfl ?_
  refine vl_end [(0, _), (1, _), (5, _)] ⟨rfl, rfl, rfl, trivial⟩ ?_
  refine then_next ?_
  refine vc_seq ?_
  refine vc_block ?_
  refine vc_loopJ (fun zf zL zm => ∃ (k : Nat), (k ≤ l.length ∧ (∀ i, i < k → ltT (l.getD i []) t)) ∧ l.length - k = zm ∧ Sub zf [(0, .slice A l.length c), (1, .string ⟨t.toArray⟩), (5, .int .i64 k)] ∧ Wk zL (.own 9 1 A l.length c (strs l) :: F)) _ ⟨0, ⟨Nat.zero_le _, fun i h => absurd h (by omega)⟩, rfl, ⟨(by first | rfl | exact int_to (by omega) | exact sl_to (by omega)), (by first | rfl | exact int_to (by omega) | exact sl_to (by omega)), (by first | rfl | exact int_to (by omega) | exact sl_to (by omega)), trivial⟩, .refl _⟩ ?_
  rintro _ _ _ ⟨k, ⟨hk, hlo⟩, rfl, hs, hp⟩
  refine vc_weaken _ hs (vc_wk hp ?_)
  clear hs hp
  refine vc_seq ?_
  refine vc_seq ?_
  refine vc_region ?_
  refine vl_cut 12 18 [(0, _), (1, _), (5, _)] ((k : Int) < l.length ∧ Op.bytesLess (l.getD k []) t = true) ⟨rfl, rfl, rfl, trivial⟩ ?_ ?_
  · skip
    refine vl_det (det_move rfl) rfl ?_
    refine vl_det (det_move rfl) rfl ?_
    refine vl_det (det_len_sl Try.underlying39 rfl) rfl ?_
    refine vl_det (det_lss rfl rfl) rfl ?_
    refine vl_det (det_move rfl) rfl ?_
    refine vl_guardp rfl rfl rfl (fun h11 => ?_) (fun h11 => ?_)
    · skip
      refine vl_det (det_move rfl) rfl ?_
      refine vl_guard_t rfl rfl ?_
      refine vl_det (det_move rfl) rfl ?_
      refine vl_guard_t rfl rfl ?_
      refine vl_det (det_indexAddr (size := 1) Try.underlying39 (by kernel_rfl) rfl rfl rfl (by omega) (by first | (exact Bor.own (by repeat (first | exact List.Mem.head _ | apply List.Mem.tail))) | (repeat (first | assumption | apply Bor.cons)))) rfl ?_
      refine vl_guard_t rfl rfl ?_
      refine vl_det (det_load_str (b := l) (j := k) (by kernel_rfl) rfl (by first | (exact Bor.own (by repeat (first | exact List.Mem.head _ | apply List.Mem.tail))) | (repeat (first | assumption | apply Bor.cons))) (by omega)) rfl ?_
      refine vl_guard_t rfl rfl ?_
      refine vl_det (det_move rfl) rfl ?_
      refine vl_guard_t rfl rfl ?_
      refine vl_det (det_s_lssD rfl rfl) rfl ?_
      refine vl_det (det_pick_t rfl rfl) rfl ?_
      exact vl_cut_end ⟨rfl, rfl, rfl, trivial⟩ (by first | rfl | exact bool_to_t (by first | omega | simp_all) | exact bool_to_f (by first | omega | simp_all) | exact bool_to (by first | omega | simp_all) | exact bool_to_b (by first | omega | simp_all))
    · skip
      refine vl_guard_f rfl rfl rfl rfl ?_
      refine vl_guard_f rfl rfl rfl rfl ?_
      refine vl_guard_f rfl rfl rfl rfl ?_
      refine vl_guard_f rfl rfl rfl rfl ?_
      refine vl_guard_f rfl rfl rfl rfl ?_
      refine vl_det (det_pick_f rfl rfl) rfl ?_
      exact vl_cut_end ⟨rfl, rfl, rfl, trivial⟩ (by first | rfl | exact bool_to_t (by first | omega | simp_all) | exact bool_to_f (by first | omega | simp_all) | exact bool_to (by first | omega | simp_all) | exact bool_to_b (by first | omega | simp_all))
  · skip
    refine vl_end [(0, _), (1, _), (5, _), (18, _)] ⟨rfl, rfl, rfl, rfl, trivial⟩ ?_
    refine then_next ?_
    refine vc_decideU rfl (fun h18 => ?_) (fun h18 => ?_)
    · skip
      refine vc_skip ?_
      refine then_next ?_
      refine vc_block ?_
      refine vc_region ?_
      refine vl_det (det_move rfl) rfl ?_
      refine vl_det (det_add rfl rfl (w_i64 (by omega) (by omega))) rfl ?_
      refine vl_det (det_assign rfl) rfl ?_
      refine vl_end [(0, _), (1, _), (5, _)] ⟨rfl, rfl, rfl, trivial⟩ ?_
      refine in_normal ?_
      refine in_loop_ ⟨_, by omega, k + 1, ⟨by omega, fun i hi => by
  rcases Nat.lt_or_ge i k with h | h
  · exact hlo i h
  · rw [show i = k by omega]; exact h18.2⟩, rfl, ⟨(by first | rfl | exact int_to (by omega) | exact sl_to (by omega)), (by first | rfl | exact int_to (by omega) | exact sl_to (by omega)), (by first | rfl | exact int_to (by omega) | exact sl_to (by omega)), trivial⟩, .refl _⟩
    · skip
      have hput := hS.put hk hlo (fun h h2 => h18 ⟨by omega, h2⟩)
      refine vc_exit ?_
      refine then_exit ?_
      refine loop_exit ?_
      refine in_eq ?_
      refine then_next ?_
      refine vc_seq ?_
      refine vc_seq ?_
      refine vc_region ?_
      refine vl_cut 12 32 [(0, _), (1, _), (5, _)] (k < l.length ∧ l.getD k [] = t) ⟨rfl, rfl, rfl, trivial⟩ ?_ ?_
      · skip
        refine vl_det (det_move rfl) rfl ?_
        refine vl_det (det_move rfl) rfl ?_
        refine vl_det (det_len_sl Try.underlying39 rfl) rfl ?_
        refine vl_det (det_lss rfl rfl) rfl ?_
        refine vl_det (det_move rfl) rfl ?_
        refine vl_guardp rfl rfl rfl (fun h25 => ?_) (fun h25 => ?_)
        · skip
          refine vl_det (det_move rfl) rfl ?_
          refine vl_guard_t rfl rfl ?_
          refine vl_det (det_move rfl) rfl ?_
          refine vl_guard_t rfl rfl ?_
          refine vl_det (det_indexAddr (size := 1) Try.underlying39 (by kernel_rfl) rfl rfl rfl (by omega) (by first | (exact Bor.own (by repeat (first | exact List.Mem.head _ | apply List.Mem.tail))) | (repeat (first | assumption | apply Bor.cons)))) rfl ?_
          refine vl_guard_t rfl rfl ?_
          refine vl_det (det_load_str (b := l) (j := k) (by kernel_rfl) rfl (by first | (exact Bor.own (by repeat (first | exact List.Mem.head _ | apply List.Mem.tail))) | (repeat (first | assumption | apply Bor.cons))) (by omega)) rfl ?_
          refine vl_guard_t rfl rfl ?_
          refine vl_det (det_move rfl) rfl ?_
          refine vl_guard_t rfl rfl ?_
          refine vl_det (det_s_eql rfl rfl) rfl ?_
          refine vl_det (det_pick_t rfl rfl) rfl ?_
          exact vl_cut_end ⟨rfl, rfl, rfl, trivial⟩ (by first | rfl | exact bool_to_t (by first | omega | exact ⟨fun h => ⟨by omega, h⟩, fun h => h.2⟩) | exact bool_to_f (by first | omega | exact ⟨fun h => ⟨by omega, h⟩, fun h => h.2⟩) | exact bool_to (by first | omega | exact ⟨fun h => ⟨by omega, h⟩, fun h => h.2⟩) | exact bool_to_b (by first | omega | exact ⟨fun h => ⟨by omega, h⟩, fun h => h.2⟩))
        · skip
          refine vl_guard_f rfl rfl rfl rfl ?_
          refine vl_guard_f rfl rfl rfl rfl ?_
          refine vl_guard_f rfl rfl rfl rfl ?_
          refine vl_guard_f rfl rfl rfl rfl ?_
          refine vl_guard_f rfl rfl rfl rfl ?_
          refine vl_det (det_pick_f rfl rfl) rfl ?_
          exact vl_cut_end ⟨rfl, rfl, rfl, trivial⟩ (by first | rfl | exact bool_to_t (by first | omega | exact ⟨fun h => ⟨by omega, h⟩, fun h => h.2⟩) | exact bool_to_f (by first | omega | exact ⟨fun h => ⟨by omega, h⟩, fun h => h.2⟩) | exact bool_to (by first | omega | exact ⟨fun h => ⟨by omega, h⟩, fun h => h.2⟩) | exact bool_to_b (by first | omega | exact ⟨fun h => ⟨by omega, h⟩, fun h => h.2⟩))
      · skip
        refine vl_end [(0, _), (1, _), (5, _), (32, _)] ⟨rfl, rfl, rfl, rfl, trivial⟩ ?_
        refine then_next ?_
        refine vc_decideU rfl (fun h32 => ?_) (fun h32 => ?_)
        · skip
          rw [if_pos h32] at hput
          refine vc_seq ?_
          refine vc_region ?_
          refine vl_det (det_move rfl) rfl ?_
          refine vl_det (det_assign rfl) rfl ?_
          refine vl_end [(4, _)] ⟨rfl, trivial⟩ ?_
          refine then_next ?_
          refine vc_ret ?_
          refine then_ret ?_
          refine ret1 rfl rfl ?_
          exact ⟨A, c, by rw [hput], by rw [hput]⟩
        · skip
          rw [if_neg h32] at hput
          refine vc_bor (A := A) (nn := l.length) (c := c) (size := 1) (xs := strs l) (by first | (exact Bor.own (by repeat (first | exact List.Mem.head _ | apply List.Mem.tail))) | (repeat (first | assumption | apply Bor.cons))) fun hcap _ => ?_
          have hb0 : Bor B w0 (.own 9 1 A l.length c (strs l) :: F) 1 (.slice A l.length c) l.length (strs l) := Bor.own (List.Mem.head _)
          have hcut := hb0.cut hk
          have hhd := hb0.head_ hk
          rw [show (strs l).take (k * 1) = strs (l.take k) by rw [Nat.mul_one]; simp [strs]] at hhd
          rw [show (strs l).drop (k * 1) = strs (l.drop k) by rw [Nat.mul_one]; simp [strs]] at hcut
          obtain ⟨A9, hA9⟩ : ∃ A9, A9 = (if c = k then A else A.map (·.add (k * 1))) := ⟨_, rfl⟩
          obtain ⟨c9, hc9⟩ : ∃ c9, c9 = c - k := ⟨_, rfl⟩
          rw [← hA9, ← hc9] at hcut
          refine vc_skip ?_
          refine then_next ?_
          refine vc_seq ?_
          refine vc_nil_row 9 1 none ?_
          refine vc_region ?_
          refine vl_det (det_assign rfl) rfl ?_
          refine vl_end [(0, _), (1, _), (5, _), (6, _)] ⟨rfl, rfl, rfl, rfl, trivial⟩ ?_
          refine then_next ?_
          refine vc_seq ?_
          refine vc_region ?_
          refine vl_det (det_move rfl) rfl ?_
          refine vl_det (det_move rfl) rfl ?_
          refine vl_det (det_move rfl) rfl ?_
          refine vl_det (det_slice_hi (i := k) (size := 1) Try.underlying39 (by kernel_rfl) rfl rfl rfl (by omega)) rfl ?_
          refine vl_eff (eff_app slT39 rfl (by repeat (first | exact .hd | apply Sel.tl)) rfl (by first | (exact Bor.own (by repeat (first | exact List.Mem.head _ | apply List.Mem.tail))) | (repeat (first | assumption | apply Bor.cons))) (by first | exact bv_one _ | exact strs_one _ | exact ints_one _ _ | (simp; done) | (simp [Value.oneCell']; done) | assumption) (by omega) (by omega)) rfl ?_
          rintro _ _ ⟨A38, c38, rfl, rfl⟩
          refine vl_det (det_assign rfl) rfl ?_
          refine vl_end [(0, _), (1, _), (5, _), (6, _)] ⟨rfl, rfl, rfl, rfl, trivial⟩ ?_
          refine then_next ?_
          refine vc_seq ?_
          refine vc_region ?_
          refine vl_det (det_move rfl) rfl ?_
          refine vl_det (det_move rfl) rfl ?_
          refine vl_push slT39 rfl rfl rfl rfl rfl (fun _ => rfl) (by repeat (first | exact .hd | apply Sel.tl)) (by omega) (by omega) ?_
          intro _ A42 c42
          refine vl_det (det_assign rfl) rfl ?_
          refine vl_end [(0, _), (5, _), (6, _)] ⟨rfl, rfl, rfl, trivial⟩ ?_
          refine then_next ?_
          refine vc_seq ?_
          refine vc_region ?_
          refine vl_det (det_move rfl) rfl ?_
          refine vl_det (det_move rfl) rfl ?_
          refine vl_det (det_move rfl) rfl ?_
          refine vl_det (det_slice_lo (i := k) (size := 1) Try.underlying39 (by kernel_rfl) rfl rfl rfl hk) rfl ?_
          rw [← hA9, ← hc9]
          refine vl_eff (eff_app slT39 rfl (by repeat (first | exact .hd | apply Sel.tl)) rfl (by first | (exact Bor.own (by repeat (first | exact List.Mem.head _ | apply List.Mem.tail))) | (repeat (first | assumption | apply Bor.cons))) (by first | exact bv_one _ | exact strs_one _ | exact ints_one _ _ | (simp; done) | (simp [Value.oneCell']; done) | assumption) (by omega) (by omega)) rfl ?_
          rintro _ _ ⟨A47, c47, rfl, rfl⟩
          refine vl_det (det_assign rfl) rfl ?_
          refine vl_end [(4, _)] ⟨rfl, trivial⟩ ?_
          refine then_next ?_
          refine vc_ret ?_
          have hel : 0 + k + 1 + (l.length - k) = (putL l t).length := by rw [hput]; simp; omega
          rw [hel]
          refine ret_wk (L' := .own 9 1 A47 (putL l t).length c47 (strs (putL l t)) :: F) (wk_own rfl (by rw [hput]; simp [strs]) (.skip (.refl _))) ?_
          refine ret1 rfl rfl ?_
          exact ⟨A47, c47, rfl, rfl⟩
theorem putL_set (o : List Txt) (x : Txt) : putL (setT o) x = setT (o ++ [x]) := setT_uniq (setT_st _) fun y => by simp [setT_mem]
theorem word_le24 {l : List UInt8} (k : Nat) : ((wordsL l).getD k []).length ≤ 24 := by
  by_cases h : k < (wordsL l).length
  · exact (word_ok (getD_mem h [])).2.1
  · simp [List.getD, List.getElem?_eq_none (Nat.le_of_not_lt h)]
theorem rterms_d {a b : Value} (txt src : List UInt8) (h1 : txt.length ≤ 100000000000) (h2 : src.length ≤ 100000000000) :
    Does Try.prog B w0 37 [.agg #[a, b, .string ⟨src.toArray⟩, .string ⟨txt.toArray⟩]] F (fun r L => ∃ A c, r = .slice A (termsL txt src).length c ∧ L = .own 9 1 A (termsL txt src).length c (strs (termsL txt src)) :: F) := by
  have hw1 := wordsL_len txt
  have hw2 := wordsL_len src
  have hs0 : setT [] = [] := setT_uniq StT.nil (by simp)
  refine fn_walk Try.func37 39 rfl rfl rfl [(0, .agg #[a, b, .string ⟨src.toArray⟩, .string ⟨txt.toArray⟩])] ⟨⟨rfl, rfl⟩, trivial⟩ ?_
  refine vc_seq ?_
  refine vc_region ?_
  refine vl_eff (eff_box rfl rfl) rfl ?_
  rintro _ _ ⟨g1, rfl, rfl⟩
  refine vl_det (det_assign rfl) rfl ?_
  refine vl_end [(1, _)] ⟨rfl, trivial⟩ ?_
  refine then_next ?_
  refine vc_seq ?_
  refine vc_region ?_
  refine vl_det (det_assign rfl) rfl ?_
  refine vl_end [(1, _), (3, _)] ⟨rfl, rfl, trivial⟩ ?_
  refine then_next ?_
  refine vc_seq ?_
  refine vc_region ?_
  refine vl_det (det_fieldAddr_ Try.underlying45 rfl (by kernel_rfl) rfl rfl) rfl ?_
  refine vl_det (det_load_blk (by kernel_rfl) rfl (by repeat (first | exact .hd | apply Sel.tl)) rfl) rfl ?_
  refine vl_call co53 rfl (rwords_d txt (by omega)) rfl ?_
  rintro _ _ ⟨A9, c9, rfl, hLL⟩
  obtain rfl := hLL.symm
  refine vl_det (det_assign rfl) rfl ?_
  refine vl_end [(1, _), (3, _), (4, _)] ⟨rfl, rfl, rfl, trivial⟩ ?_
  refine then_next ?_
  refine vc_seq ?_
  refine vc_seq ?_
  refine vc_nil_row 9 1 none ?_
  refine vc_region ?_
  refine vl_det (det_assign rfl) rfl ?_
  refine vl_end [(1, _), (3, _), (4, _), (5, _)] ⟨rfl, rfl, rfl, rfl, trivial⟩ ?_
  refine then_next ?_
  refine vc_block ?_
  refine vc_loopJ (fun zf zL zm => ∃ (k : Nat) (o : List Txt) (A3 : Option Addr) (c3 : Nat), (k ≤ (wordsL txt).length ∧ o = setT ((wordsL txt).take k)) ∧ (wordsL txt).length - k = zm ∧ Sub zf [(1, .pointer (some ⟨g1, 0, none⟩)), (3, .slice A3 o.length c3), (4, .slice A9 (wordsL txt).length c9), (5, .int .i64 k)] ∧ Wk zL (.own 9 1 A3 o.length c3 (strs o) :: .own 9 1 A9 (wordsL txt).length c9 (strs (wordsL txt)) :: .blk g1 45 [a, b, .string ⟨src.toArray⟩, .string ⟨txt.toArray⟩] :: F)) _ ⟨0, [], none, 0, ⟨Nat.zero_le _, by rw [List.take_zero, hs0]⟩, rfl, ⟨(by first | rfl | exact int_to (by omega) | exact sl_to (by omega)), (by first | rfl | exact int_to (by omega) | exact sl_to (by omega)), (by first | rfl | exact int_to (by omega) | exact sl_to (by omega)), (by first | rfl | exact int_to (by omega) | exact sl_to (by omega)), trivial⟩, .refl _⟩ ?_
  rintro _ _ _ ⟨k, o, A3, c3, ⟨hk, ho⟩, rfl, hs, hp⟩
  refine vc_weaken _ hs (vc_wk hp ?_)
  clear hs hp
  refine vc_seq ?_
  refine vc_seq ?_
  refine vc_region ?_
  refine vl_det (det_move rfl) rfl ?_
  refine vl_det (det_move rfl) rfl ?_
  refine vl_det (det_len_sl Try.underlying39 rfl) rfl ?_
  refine vl_det (det_lss rfl rfl) rfl ?_
  refine vl_end [(1, _), (3, _), (4, _), (5, _), (13, _)] ⟨rfl, rfl, rfl, rfl, rfl, trivial⟩ ?_
  refine then_next ?_
  refine vc_decideU rfl (fun h13 => ?_) (fun h13 => ?_)
  · skip
    have hsl := setT_len ((wordsL txt).take k)
    rw [List.length_take, ← ho] at hsl
    have htk : (wordsL txt).take (k + 1) = (wordsL txt).take k ++ [(wordsL txt).getD k []] := by rw [List.take_add_one, List.getElem?_eq_getElem (show k < (wordsL txt).length by omega)]; simp [List.getD, List.getElem?_eq_getElem (show k < (wordsL txt).length by omega)]
    have hoS : StT o := ho ▸ setT_st _
    refine vc_skip ?_
    refine then_next ?_
    refine vc_seq ?_
    refine vc_block ?_
    refine vc_region ?_
    refine vl_det (det_move rfl) rfl ?_
    refine vl_det (det_move rfl) rfl ?_
    refine vl_det (det_move rfl) rfl ?_
    refine vl_det (det_indexAddr (size := 1) Try.underlying39 (by kernel_rfl) rfl rfl rfl (by omega) (by first | (exact Bor.own (by repeat (first | exact List.Mem.head _ | apply List.Mem.tail))) | (repeat (first | assumption | apply Bor.cons)))) rfl ?_
    refine vl_det (det_load_str (b := wordsL txt) (j := k) (by kernel_rfl) rfl (by first | (exact Bor.own (by repeat (first | exact List.Mem.head _ | apply List.Mem.tail))) | (repeat (first | assumption | apply Bor.cons))) (by omega)) rfl ?_
    refine vl_call co35 rfl (rputT_d hoS (by omega) ((wordsL txt).getD k [])) rfl ?_
    rintro _ _ ⟨A21, c21, rfl, hLL⟩
    obtain rfl := hLL.symm
    refine vl_det (det_assign rfl) rfl ?_
    refine vl_end [(1, _), (3, _), (4, _), (5, _)] ⟨rfl, rfl, rfl, rfl, trivial⟩ ?_
    refine in_normal ?_
    refine then_next ?_
    refine vc_region ?_
    refine vl_det (det_move rfl) rfl ?_
    refine vl_det (det_add rfl rfl (w_i64 (by omega) (by omega))) rfl ?_
    refine vl_det (det_assign rfl) rfl ?_
    refine vl_end [(1, _), (3, _), (4, _), (5, _)] ⟨rfl, rfl, rfl, rfl, trivial⟩ ?_
    refine in_loop_ ⟨_, by omega, k + 1, putL o ((wordsL txt).getD k []), A21, c21, ⟨by omega, by rw [ho, putL_set, ← htk]⟩, rfl, ⟨(by first | rfl | exact int_to (by omega) | exact sl_to (by omega)), (by first | rfl | exact int_to (by omega) | exact sl_to (by omega)), (by first | rfl | exact int_to (by omega) | exact sl_to (by omega)), (by first | rfl | exact int_to (by omega) | exact sl_to (by omega)), trivial⟩, .cons (.refl _)⟩
  · skip
    obtain rfl : k = (wordsL txt).length := by omega
    rw [List.take_length] at ho
    refine vc_exit ?_
    refine then_exit ?_
    refine loop_exit ?_
    refine in_eq ?_
    refine then_next ?_
    refine vc_seq ?_
    refine vc_region ?_
    refine vl_det (det_fieldAddr_ Try.underlying45 rfl (by kernel_rfl) rfl rfl) rfl ?_
    refine vl_det (det_load_blk (by kernel_rfl) rfl (by repeat (first | exact .hd | apply Sel.tl)) rfl) rfl ?_
    refine vl_call co53 rfl (rwords_d src (by omega)) rfl ?_
    rintro _ _ ⟨A24, c24, rfl, hLL⟩
    obtain rfl := hLL.symm
    refine vl_det (det_assign rfl) rfl ?_
    refine vl_end [(3, _), (4, _)] ⟨rfl, rfl, trivial⟩ ?_
    refine then_next ?_
    refine vc_seq ?_
    refine vc_seq ?_
    refine vc_region ?_
    refine vl_det (det_assign rfl) rfl ?_
    refine vl_end [(3, _), (4, _), (6, _)] ⟨rfl, rfl, rfl, trivial⟩ ?_
    refine then_next ?_
    refine vc_block ?_
    refine vc_loopJ (fun zf zL zm => ∃ (k : Nat) (o2 : List Txt) (A5 : Option Addr) (c5 : Nat), (k ≤ (wordsL src).length ∧ o2 = setT (wordsL txt ++ ((wordsL src).take k).map (64 :: ·))) ∧ (wordsL src).length - k = zm ∧ Sub zf [(3, .slice A5 o2.length c5), (4, .slice A24 (wordsL src).length c24), (6, .int .i64 k)] ∧ Wk zL (.own 9 1 A5 o2.length c5 (strs o2) :: .own 9 1 A24 (wordsL src).length c24 (strs (wordsL src)) :: F)) _ ⟨0, o, A3, c3, ⟨Nat.zero_le _, by rw [ho]; simp⟩, rfl, ⟨(by first | rfl | exact int_to (by omega) | exact sl_to (by omega)), (by first | rfl | exact int_to (by omega) | exact sl_to (by omega)), (by first | rfl | exact int_to (by omega) | exact sl_to (by omega)), trivial⟩, .swap (.cons (.cons (.skip (.skip (.refl _)))))⟩ ?_
    rintro _ _ _ ⟨k, o2, A5, c5, ⟨hk2, ho2⟩, rfl, hs, hp⟩
    refine vc_weaken _ hs (vc_wk hp ?_)
    clear hs hp
    refine vc_seq ?_
    refine vc_seq ?_
    refine vc_region ?_
    refine vl_det (det_move rfl) rfl ?_
    refine vl_det (det_move rfl) rfl ?_
    refine vl_det (det_len_sl Try.underlying39 rfl) rfl ?_
    refine vl_det (det_lss rfl rfl) rfl ?_
    refine vl_end [(3, _), (4, _), (6, _), (28, _)] ⟨rfl, rfl, rfl, rfl, trivial⟩ ?_
    refine then_next ?_
    refine vc_decideU rfl (fun h28 => ?_) (fun h28 => ?_)
    · skip
      have hsl := setT_len (wordsL txt ++ ((wordsL src).take k).map (64 :: ·))
      rw [List.length_append, List.length_map, List.length_take, ← ho2] at hsl
      have htk : wordsL txt ++ ((wordsL src).take (k + 1)).map (64 :: ·) = wordsL txt ++ ((wordsL src).take k).map (64 :: ·) ++ [64 :: (wordsL src).getD k []] := by
        have hlt : k < (wordsL src).length := by omega
        have hgd : (wordsL src).getD k [] = (wordsL src)[k] := by simp [List.getD, List.getElem?_eq_getElem hlt]
        rw [List.take_add_one, List.getElem?_eq_getElem hlt, hgd, Option.toList_some, List.map_append, List.map_singleton, List.append_assoc]
      have hoS : StT o2 := ho2 ▸ setT_st _
      refine vc_skip ?_
      refine then_next ?_
      refine vc_seq ?_
      refine vc_block ?_
      refine vc_region ?_
      refine vl_det (det_move rfl) rfl ?_
      refine vl_det (det_move rfl) rfl ?_
      refine vl_det (det_move rfl) rfl ?_
      refine vl_det (det_indexAddr (size := 1) Try.underlying39 (by kernel_rfl) rfl rfl rfl (by omega) (by first | (exact Bor.own (by repeat (first | exact List.Mem.head _ | apply List.Mem.tail))) | (repeat (first | assumption | apply Bor.cons)))) rfl ?_
      refine vl_det (det_load_str (b := wordsL src) (j := k) (by kernel_rfl) rfl (by first | (exact Bor.own (by repeat (first | exact List.Mem.head _ | apply List.Mem.tail))) | (repeat (first | assumption | apply Bor.cons))) (by omega)) rfl ?_
      refine vl_det (det_s_add (s := [64]) (r := (wordsL src).getD k []) rfl rfl (by have := word_le24 (l := src) k; simp only [List.length_cons, List.length_nil]; omega)) rfl ?_
      refine vl_call co35 rfl (rputT_d hoS (by omega) (64 :: (wordsL src).getD k [])) rfl ?_
      rintro _ _ ⟨A37, c37, rfl, hLL⟩
      obtain rfl := hLL.symm
      refine vl_det (det_assign rfl) rfl ?_
      refine vl_end [(3, _), (4, _), (6, _)] ⟨rfl, rfl, rfl, trivial⟩ ?_
      refine in_normal ?_
      refine then_next ?_
      refine vc_region ?_
      refine vl_det (det_move rfl) rfl ?_
      refine vl_det (det_add rfl rfl (w_i64 (by omega) (by omega))) rfl ?_
      refine vl_det (det_assign rfl) rfl ?_
      refine vl_end [(3, _), (4, _), (6, _)] ⟨rfl, rfl, rfl, trivial⟩ ?_
      refine in_loop_ ⟨_, by omega, k + 1, putL o2 (64 :: (wordsL src).getD k []), A37, c37, ⟨by omega, by rw [ho2, putL_set, ← htk]⟩, rfl, ⟨(by first | rfl | exact int_to (by omega) | exact sl_to (by omega)), (by first | rfl | exact int_to (by omega) | exact sl_to (by omega)), (by first | rfl | exact int_to (by omega) | exact sl_to (by omega)), trivial⟩, .cons (.refl _)⟩
    · skip
      obtain rfl : k = (wordsL src).length := by omega
      rw [List.take_length] at ho2
      obtain rfl : o2 = termsL txt src := ho2
      refine vc_exit ?_
      refine then_exit ?_
      refine loop_exit ?_
      refine in_eq ?_
      refine then_next ?_
      refine vc_seq ?_
      refine vc_region ?_
      refine vl_det (det_move rfl) rfl ?_
      refine vl_det (det_assign rfl) rfl ?_
      refine vl_end [(2, _)] ⟨rfl, trivial⟩ ?_
      refine then_next ?_
      refine vc_ret ?_
      refine ret_wk (L' := .own 9 1 A5 (termsL txt src).length c5 (strs (termsL txt src)) :: F) (.cons (.skip (.refl _))) ?_
      refine ret1 rfl rfl ?_
      exact ⟨A5, c5, rfl, rfl⟩
end Go.Proofs.Ytakokckokchacaa
namespace Go.Proofs.Ytakokckokchacaa
open Go.RowKit
set_option linter.unusedVariables false
set_option maxRecDepth 20000
variable {B : Nat} {w0 : World} {F R L M : List Ch} {A A2 AT : Option Addr} {n c c2 cT g : Nat} {x : RecC} {T : List Txt} {s : StepC} {t : Qt}
/-! plain -/
def leafM (x : RecC) (T : List Txt) (s : StepC) : Bool :=
  if s.1 = 1 then decide (s.2.2.1 ∈ T) else if s.1 = 2 then T.any (fun y => decide (bgT y s.2.2.1)) else if s.1 = 3 then decide (s.2.2.2.1 ≤ x.1 ∧ x.1 ≤ s.2.2.2.2) else decide (s.2.2.2.1 ≤ x.2.1.toNat ∧ x.2.1.toNat ≤ s.2.2.2.2)
def mm (x : RecC) (T : List Txt) : Qt → Bool × Bool × Bool
  | .leaf s => (leafM x T s, true, false)
  | .not k => (!(mm x T k).1, true, false)
  | .group op ks => (if op = 6 then (mm x T ks).2.1 else (mm x T ks).2.2, true, false)
  | .nil => (true, true, false)
  | .cons k r => (true, (mm x T k).1 && (mm x T r).2.1, (mm x T k).1 || (mm x T r).2.2)
def meansT (x : RecC) (T : List Txt) (t : Qt) : Bool := (mm x T t).1
theorem mm_all : ∀ l : List Qt, (mm x T (ofL l)).2.1 = l.all (meansT x T)
  | [] => rfl
  | k :: r => by simp [ofL, mm, mm_all r, meansT]
theorem mm_any : ∀ l : List Qt, (mm x T (ofL l)).2.2 = l.any (meansT x T)
  | [] => rfl
  | k :: r => by simp [ofL, mm, mm_any r, meansT]
theorem means_grp (op : Int) (l : List Qt) : meansT x T (.group op (ofL l)) = if op = 6 then l.all (meansT x T) else l.any (meansT x T) := by
  show (if op = 6 then _ else _) = _
  rw [mm_all, mm_any]
/-! texts in a list -/
theorem hasp0m_d (x t : Txt) : Does Try.prog B w0 124 [.string ⟨x.toArray⟩, .string ⟨t.toArray⟩] F (fun r L => r = .bool (decide (bgT x t)) ∧ L = F) := by
  refine fn_walk Try.func124 18 rfl rfl rfl [(0, .string ⟨x.toArray⟩), (1, .string ⟨t.toArray⟩)] ⟨⟨rfl, rfl⟩, ⟨rfl, rfl⟩, trivial⟩ ?_
  refine vc_seq ?_
  refine vc_region ?_
  refine vl_det (det_assign rfl) rfl ?_
  refine vl_end [(0, _), (1, _)] ⟨rfl, rfl, trivial⟩ ?_
  refine then_next ?_
  refine vc_seq ?_
  refine vc_region ?_
  refine vl_cut 13 17 [] (bgT x t) trivial ?_ ?_
  · skip
    refine vl_det (det_move rfl) rfl ?_
    refine vl_det (det_len_s Try.underlying9 rfl) rfl ?_
    refine vl_det (det_move rfl) rfl ?_
    refine vl_det (det_len_s Try.underlying9 rfl) rfl ?_
    refine vl_det (det_geq rfl rfl) rfl ?_
    refine vl_det (det_move rfl) rfl ?_
    refine vl_guardp rfl rfl rfl (fun h10 => ?_) (fun h10 => ?_)
    · skip
      refine vl_det (det_move rfl) rfl ?_
      refine vl_guard_t rfl rfl ?_
      refine vl_det (det_move rfl) rfl ?_
      refine vl_guard_t rfl rfl ?_
      refine vl_det (det_len_s Try.underlying9 rfl) rfl ?_
      refine vl_guard_t rfl rfl ?_
      refine vl_det (det_str_hi Try.underlying9 rfl rfl rfl (by omega)) rfl ?_
      refine vl_guard_t rfl rfl ?_
      refine vl_det (det_move rfl) rfl ?_
      refine vl_guard_t rfl rfl ?_
      refine vl_det (det_s_eql rfl rfl) rfl ?_
      refine vl_det (det_pick_t rfl rfl) rfl ?_
      exact vl_cut_end trivial (by first | rfl | exact bool_to_t (by first | exact fun h => absurd h.1 (by omega) | exact ⟨fun h => ⟨by omega, h⟩, fun h => h.2⟩) | exact bool_to_f (by first | exact fun h => absurd h.1 (by omega) | exact ⟨fun h => ⟨by omega, h⟩, fun h => h.2⟩) | exact bool_to (by first | exact fun h => absurd h.1 (by omega) | exact ⟨fun h => ⟨by omega, h⟩, fun h => h.2⟩) | exact bool_to_b (by first | exact fun h => absurd h.1 (by omega) | exact ⟨fun h => ⟨by omega, h⟩, fun h => h.2⟩))
    · skip
      refine vl_guard_f rfl rfl rfl rfl ?_
      refine vl_guard_f rfl rfl rfl rfl ?_
      refine vl_guard_f rfl rfl rfl rfl ?_
      refine vl_guard_f rfl rfl rfl rfl ?_
      refine vl_guard_f rfl rfl rfl rfl ?_
      refine vl_det (det_pick_f rfl rfl) rfl ?_
      exact vl_cut_end trivial (by first | rfl | exact bool_to_t (by first | exact fun h => absurd h.1 (by omega) | exact ⟨fun h => ⟨by omega, h⟩, fun h => h.2⟩) | exact bool_to_f (by first | exact fun h => absurd h.1 (by omega) | exact ⟨fun h => ⟨by omega, h⟩, fun h => h.2⟩) | exact bool_to (by first | exact fun h => absurd h.1 (by omega) | exact ⟨fun h => ⟨by omega, h⟩, fun h => h.2⟩) | exact bool_to_b (by first | exact fun h => absurd h.1 (by omega) | exact ⟨fun h => ⟨by omega, h⟩, fun h => h.2⟩))
  · skip
    refine vl_det (det_assign rfl) rfl ?_
    refine vl_end [(4, _)] ⟨rfl, trivial⟩ ?_
    refine then_next ?_
    refine vc_ret ?_
    refine ret1 rfl rfl ?_
    exact ⟨rfl, rfl⟩
theorem haspm_d (x t : Txt) : Does Try.prog B w0 120 [.string ⟨x.toArray⟩, .string ⟨t.toArray⟩] F (fun r L => r = .bool (decide (bgT x t)) ∧ L = F) := by
  refine fn_walk Try.func120 8 rfl rfl rfl [(0, .string ⟨x.toArray⟩), (1, .string ⟨t.toArray⟩)] ⟨⟨rfl, rfl⟩, ⟨rfl, rfl⟩, trivial⟩ ?_
  refine vc_seq ?_
  refine vc_region ?_
  refine vl_det (det_assign rfl) rfl ?_
  refine vl_end [(0, _), (1, _)] ⟨rfl, rfl, trivial⟩ ?_
  refine then_next ?_
  refine vc_seq ?_
  refine vc_region ?_
  refine vl_det (det_move rfl) rfl ?_
  refine vl_det (det_move rfl) rfl ?_
  refine vl_call co124 rfl (hasp0m_d x t) rfl ?_
  rintro _ _ ⟨rfl, hLL⟩
  obtain rfl := hLL.symm
  refine vl_det (det_assign rfl) rfl ?_
  refine vl_end [(4, _)] ⟨rfl, trivial⟩ ?_
  refine then_next ?_
  refine vc_ret ?_
  refine ret1 rfl rfl ?_
  exact ⟨rfl, rfl⟩
theorem idxs_d (t : Txt) (hb : Bor B w0 F 1 (.slice A T.length c) T.length (strs T)) (hl : T.length ≤ 1000000000) :
    Does Try.prog B w0 122 [.slice A T.length c, .string ⟨t.toArray⟩] F (fun r L => (∃ k : Int, r = .int .i64 k ∧ (0 ≤ k ↔ t ∈ T)) ∧ L = F) := by
  refine fn_walk Try.func122 19 rfl rfl rfl [(0, .slice A T.length c), (1, .string ⟨t.toArray⟩)] ⟨⟨rfl, rfl⟩, ⟨rfl, rfl⟩, trivial⟩ ?_
  refine vc_seq ?_
  refine vc_region ?_
  refine vl_det (det_assign rfl) rfl ?_
  refine vl_end [(0, _), (1, _)] ⟨rfl, rfl, trivial⟩ ?_
  refine then_next ?_
  refine vc_seq ?_
  refine vc_seq ?_
  refine vc_region ?_
  refine vl_det (det_move rfl) rfl ?_
  refine vl_det (det_len_sl Try.underlying39 rfl) rfl ?_
  refine vl_det (det_move rfl) rfl ?_
  refine vl_end [(0, _), (1, _), (7, _), (8, _)] ⟨rfl, rfl, rfl, rfl, trivial⟩ ?_
  refine then_next ?_
  refine vc_block ?_
  refine vc_loopJ (fun zf zL zm => ∃ (k : Nat), (k ≤ T.length ∧ t ∉ T.take k) ∧ T.length - k = zm ∧ Sub zf [(0, .slice A T.length c), (1, .string ⟨t.toArray⟩), (7, .int .i64 T.length), (8, .int .i64 k)] ∧ Wk zL (F)) _ ⟨0, ⟨Nat.zero_le _, by simp⟩, rfl, ⟨(by first | rfl | exact int_to (by omega) | exact sl_to (by omega)), (by first | rfl | exact int_to (by omega) | exact sl_to (by omega)), (by first | rfl | exact int_to (by omega) | exact sl_to (by omega)), (by first | rfl | exact int_to (by omega) | exact sl_to (by omega)), trivial⟩, .refl _⟩ ?_
  rintro _ _ _ ⟨k, ⟨hk, hS⟩, rfl, hs, hp⟩
  refine vc_weaken _ hs (vc_wk hp ?_)
  clear hs hp
  refine vc_seq ?_
  refine vc_region ?_
  refine vl_det (det_lss rfl rfl) rfl ?_
  refine vl_end [(0, _), (1, _), (7, _), (8, _), (9, _)] ⟨rfl, rfl, rfl, rfl, rfl, trivial⟩ ?_
  refine then_next ?_
  refine vc_seq ?_
  refine vc_decideU rfl (fun h9 => ?_) (fun h9 => ?_)
  · skip
    refine vc_skip ?_
    refine then_next ?_
    refine vc_seq ?_
    refine vc_block ?_
    refine vc_seq ?_
    refine vc_region ?_
    refine vl_det (det_move rfl) rfl ?_
    refine vl_det (det_assign rfl) rfl ?_
    refine vl_end [(0, _), (1, _), (5, _), (7, _), (8, _)] ⟨rfl, rfl, rfl, rfl, rfl, trivial⟩ ?_
    refine then_next ?_
    refine vc_seq ?_
    refine vc_region ?_
    refine vl_det (det_move rfl) rfl ?_
    refine vl_det (det_move rfl) rfl ?_
    refine vl_det (det_move rfl) rfl ?_
    refine vl_det (det_indexAddr (size := 1) Try.underlying39 (by kernel_rfl) rfl rfl rfl (by omega) (by first | (exact Bor.own (by repeat (first | exact List.Mem.head _ | apply List.Mem.tail))) | (repeat (first | assumption | apply Bor.cons)))) rfl ?_
    refine vl_det (det_load_str (by kernel_rfl) rfl (by first | (exact Bor.own (by repeat (first | exact List.Mem.head _ | apply List.Mem.tail))) | (repeat (first | assumption | apply Bor.cons))) (by omega)) rfl ?_
    refine vl_det (det_s_eql rfl rfl) rfl ?_
    refine vl_end [(0, _), (1, _), (5, _), (7, _), (8, _), (16, _)] ⟨rfl, rfl, rfl, rfl, rfl, rfl, trivial⟩ ?_
    refine then_next ?_
    refine vc_decideU rfl (fun h16 => ?_) (fun h16 => ?_)
    · skip
      refine vc_seq ?_
      refine vc_region ?_
      refine vl_det (det_move rfl) rfl ?_
      refine vl_det (det_assign rfl) rfl ?_
      refine vl_end [(4, _)] ⟨rfl, trivial⟩ ?_
      refine then_next ?_
      refine vc_ret ?_
      refine in_ret ?_
      refine then_ret ?_
      refine loop_ret ?_
      refine in_ret ?_
      refine then_ret ?_
      refine ret1 rfl rfl ?_
      have hm := getD_mem (show k < T.length by omega) ([] : Txt)
      have e : t = T.getD k [] := by simpa using h16
      exact ⟨⟨k, rfl, ⟨fun _ => e ▸ hm, fun _ => by omega⟩⟩, rfl⟩
    · skip
      refine vc_skip ?_
      refine in_normal ?_
      refine then_next ?_
      refine vc_region ?_
      refine vl_det (det_add rfl rfl (w_i64 (by omega) (by omega))) rfl ?_
      refine vl_det (det_move rfl) rfl ?_
      refine vl_end [(0, _), (1, _), (7, _), (8, _)] ⟨rfl, rfl, rfl, rfl, trivial⟩ ?_
      refine in_loop_ ⟨_, by omega, k + 1, ⟨by omega, by rw [take_getD (by omega) []]; simp [hS]; exact fun e => h16 (by simpa using e)⟩, rfl, ⟨(by first | rfl | exact int_to (by omega) | exact sl_to (by omega)), (by first | rfl | exact int_to (by omega) | exact sl_to (by omega)), (by first | rfl | exact int_to (by omega) | exact sl_to (by omega)), (by first | rfl | exact int_to (by omega) | exact sl_to (by omega)), trivial⟩, .refl _⟩
  · skip
    refine vc_exit ?_
    refine then_exit ?_
    refine loop_exit ?_
    refine in_eq ?_
    refine then_next ?_
    refine vc_seq ?_
    refine vc_region ?_
    refine vl_det (det_assign rfl) rfl ?_
    refine vl_end [(4, _)] ⟨rfl, trivial⟩ ?_
    refine then_next ?_
    refine vc_ret ?_
    refine ret1 rfl rfl ?_
    rw [List.take_of_length_le (by omega)] at hS
    exact ⟨⟨-1, rfl, ⟨fun h => absurd h (by decide), fun h => absurd h hS⟩⟩, rfl⟩
theorem cons_d (t : Txt) (hb : Bor B w0 F 1 (.slice A T.length c) T.length (strs T)) (hl : T.length ≤ 1000000000) :
    Does Try.prog B w0 117 [.slice A T.length c, .string ⟨t.toArray⟩] F (fun r L => r = .bool (decide (t ∈ T)) ∧ L = F) := by
  refine fn_walk Try.func117 9 rfl rfl rfl [(0, .slice A T.length c), (1, .string ⟨t.toArray⟩)] ⟨⟨rfl, rfl⟩, ⟨rfl, rfl⟩, trivial⟩ ?_
  refine vc_seq ?_
  refine vc_region ?_
  refine vl_det (det_assign rfl) rfl ?_
  refine vl_end [(0, _), (1, _)] ⟨rfl, rfl, trivial⟩ ?_
  refine then_next ?_
  refine vc_seq ?_
  refine vc_region ?_
  refine vl_det (det_move rfl) rfl ?_
  refine vl_det (det_move rfl) rfl ?_
  refine vl_call co122 rfl (idxs_d t (by first | (exact Bor.own (by repeat (first | exact List.Mem.head _ | apply List.Mem.tail))) | (repeat (first | assumption | apply Bor.cons))) hl) rfl ?_
  rintro _ _ ⟨⟨k7, rfl, hk7⟩, hLL⟩
  obtain rfl := hLL.symm
  refine vl_det (det_geq rfl rfl) rfl ?_
  refine vl_det (det_assign rfl) rfl ?_
  refine vl_end [(4, _)] ⟨rfl, trivial⟩ ?_
  refine then_next ?_
  refine vc_ret ?_
  refine ret1 rfl rfl ?_
  exact ⟨by rw [decide_eq_decide.2 hk7], rfl⟩
theorem lmf_d (y : Txt) {op nn : Int} {wd : Txt} {fr to : Nat} : Does Try.prog B w0 119 [.string ⟨y.toArray⟩, .pointer (some ⟨g, 0, none⟩)] (.blk g 88 [.int .i64 op, .int .i64 nn, .string ⟨wd.toArray⟩, .int .u64 (fr : Int), .int .u64 (to : Int)] :: F) (fun r L => r = .bool (decide (bgT y wd)) ∧ L = .blk g 88 [.int .i64 op, .int .i64 nn, .string ⟨wd.toArray⟩, .int .u64 (fr : Int), .int .u64 (to : Int)] :: F) := by
  refine fn_walk Try.func119 9 rfl rfl rfl [(0, .string ⟨y.toArray⟩), (1, .pointer (some ⟨g, 0, none⟩))] ⟨⟨rfl, rfl⟩, ⟨rfl, rfl⟩, trivial⟩ ?_
  refine vc_seq ?_
  refine vc_region ?_
  refine vl_det (det_assign rfl) rfl ?_
  refine vl_end [(0, _), (1, _)] ⟨rfl, rfl, trivial⟩ ?_
  refine then_next ?_
  refine vc_seq ?_
  refine vc_region ?_
  refine vl_det (det_move rfl) rfl ?_
  refine vl_det (det_fieldAddr_ Try.underlying88 rfl (by kernel_rfl) rfl rfl) rfl ?_
  refine vl_det (det_fieldAddr_ Try.underlying38 rfl (by kernel_rfl) rfl rfl) rfl ?_
  refine vl_det (det_load_blk (by kernel_rfl) rfl (by repeat (first | exact .hd | apply Sel.tl)) rfl) rfl ?_
  refine vl_call co120 rfl (haspm_d y wd) rfl ?_
  rintro _ _ ⟨rfl, hLL⟩
  obtain rfl := hLL.symm
  refine vl_det (det_assign rfl) rfl ?_
  refine vl_end [(3, _)] ⟨rfl, trivial⟩ ?_
  refine then_next ?_
  refine vc_ret ?_
  refine ret1 rfl rfl ?_
  exact ⟨rfl, rfl⟩
theorem idxf_d {op nn : Int} {wd : Txt} {fr to : Nat} (hb : Bor B w0 F 1 (.slice A T.length c) T.length (strs T)) (hl : T.length ≤ 1000000000) :
    Does Try.prog B w0 123 [.slice A T.length c, .func (.func 119) #[] #[.pointer (some ⟨g, 0, none⟩)]] (.blk g 88 [.int .i64 op, .int .i64 nn, .string ⟨wd.toArray⟩, .int .u64 (fr : Int), .int .u64 (to : Int)] :: F) (fun r L => (∃ k : Int, r = .int .i64 k ∧ (0 ≤ k ↔ T.any (fun y => decide (bgT y wd)) = true)) ∧ L = .blk g 88 [.int .i64 op, .int .i64 nn, .string ⟨wd.toArray⟩, .int .u64 (fr : Int), .int .u64 (to : Int)] :: F) := by
  refine fn_walk Try.func123 19 rfl rfl rfl [(0, .slice A T.length c), (1, .func (.func 119) #[] #[.pointer (some ⟨g, 0, none⟩)])] ⟨⟨rfl, rfl⟩, ⟨rfl, rfl⟩, trivial⟩ ?_
  refine vc_seq ?_
  refine vc_region ?_
  refine vl_det (det_assign rfl) rfl ?_
  refine vl_end [(0, _), (1, _)] ⟨rfl, rfl, trivial⟩ ?_
  refine then_next ?_
  refine vc_seq ?_
  refine vc_seq ?_
  refine vc_region ?_
  refine vl_det (det_move rfl) rfl ?_
  refine vl_det (det_len_sl Try.underlying39 rfl) rfl ?_
  refine vl_det (det_move rfl) rfl ?_
  refine vl_end [(0, _), (1, _), (7, _), (8, _)] ⟨rfl, rfl, rfl, rfl, trivial⟩ ?_
  refine then_next ?_
  refine vc_block ?_
  refine vc_loopJ (fun zf zL zm => ∃ (k : Nat), (k ≤ T.length ∧ (T.take k).any (fun y => decide (bgT y wd)) = false) ∧ T.length - k = zm ∧ Sub zf [(0, .slice A T.length c), (1, .func (.func 119) #[] #[.pointer (some ⟨g, 0, none⟩)]), (7, .int .i64 T.length), (8, .int .i64 k)] ∧ Wk zL (.blk g 88 [.int .i64 op, .int .i64 nn, .string ⟨wd.toArray⟩, .int .u64 (fr : Int), .int .u64 (to : Int)] :: F)) _ ⟨0, ⟨Nat.zero_le _, rfl⟩, rfl, ⟨(by first | rfl | exact int_to (by omega) | exact sl_to (by omega)), (by first | rfl | exact int_to (by omega) | exact sl_to (by omega)), (by first | rfl | exact int_to (by omega) | exact sl_to (by omega)), (by first | rfl | exact int_to (by omega) | exact sl_to (by omega)), trivial⟩, .refl _⟩ ?_
  rintro _ _ _ ⟨k, ⟨hk, ha⟩, rfl, hs, hp⟩
  refine vc_weaken _ hs (vc_wk hp ?_)
  clear hs hp
  refine vc_seq ?_
  refine vc_region ?_
  refine vl_det (det_lss rfl rfl) rfl ?_
  refine vl_end [(0, _), (1, _), (7, _), (8, _), (9, _)] ⟨rfl, rfl, rfl, rfl, rfl, trivial⟩ ?_
  refine then_next ?_
  refine vc_seq ?_
  refine vc_decideU rfl (fun h9 => ?_) (fun h9 => ?_)
  · skip
    have hmem := getD_mem (show k < T.length by omega) ([] : Txt)
    have htk := take_getD (show k < T.length by omega) ([] : Txt)
    refine vc_skip ?_
    refine then_next ?_
    refine vc_seq ?_
    refine vc_block ?_
    refine vc_seq ?_
    refine vc_region ?_
    refine vl_det (det_move rfl) rfl ?_
    refine vl_det (det_assign rfl) rfl ?_
    refine vl_end [(0, _), (1, _), (5, _), (7, _), (8, _)] ⟨rfl, rfl, rfl, rfl, rfl, trivial⟩ ?_
    refine then_next ?_
    refine vc_seq ?_
    refine vc_region ?_
    refine vl_det (det_move rfl) rfl ?_
    refine vl_det (det_move rfl) rfl ?_
    refine vl_det (det_move rfl) rfl ?_
    refine vl_det (det_indexAddr (size := 1) Try.underlying39 (by kernel_rfl) rfl rfl rfl (by omega) (by first | (exact Bor.own (by repeat (first | exact List.Mem.head _ | apply List.Mem.tail))) | (repeat (first | assumption | apply Bor.cons)))) rfl ?_
    refine vl_det (det_load_str (b := T) (j := k) (by kernel_rfl) rfl (by first | (exact Bor.own (by repeat (first | exact List.Mem.head _ | apply List.Mem.tail))) | (repeat (first | assumption | apply Bor.cons))) (by omega)) rfl ?_
    refine vl_callv (callable Try.func119 rfl rfl) rfl rfl (lmf_d (T.getD k [])) rfl ?_
    rintro _ _ ⟨rfl, hLL⟩
    obtain rfl := hLL.symm
    refine vl_end [(0, _), (1, _), (5, _), (7, _), (8, _), (16, _)] ⟨rfl, rfl, rfl, rfl, rfl, rfl, trivial⟩ ?_
    refine then_next ?_
    refine vc_decideU rfl (fun h16 => ?_) (fun h16 => ?_)
    · skip
      refine vc_seq ?_
      refine vc_region ?_
      refine vl_det (det_move rfl) rfl ?_
      refine vl_det (det_assign rfl) rfl ?_
      refine vl_end [(4, _)] ⟨rfl, trivial⟩ ?_
      refine then_next ?_
      refine vc_ret ?_
      refine in_ret ?_
      refine then_ret ?_
      refine loop_ret ?_
      refine in_ret ?_
      refine then_ret ?_
      refine ret1 rfl rfl ?_
      exact ⟨⟨k, rfl, ⟨fun _ => List.any_eq_true.2 ⟨_, hmem, decide_eq_true h16⟩, fun _ => by omega⟩⟩, rfl⟩
    · skip
      refine vc_skip ?_
      refine in_normal ?_
      refine then_next ?_
      refine vc_region ?_
      refine vl_det (det_add rfl rfl (w_i64 (by omega) (by omega))) rfl ?_
      refine vl_det (det_move rfl) rfl ?_
      refine vl_end [(0, _), (1, _), (7, _), (8, _)] ⟨rfl, rfl, rfl, rfl, trivial⟩ ?_
      refine in_loop_ ⟨_, by omega, k + 1, ⟨by omega, by rw [htk, List.any_append, ha]; simp only [List.any_cons, List.any_nil, Bool.false_or, Bool.or_false]; exact decide_eq_false h16⟩, rfl, ⟨(by first | rfl | exact int_to (by omega) | exact sl_to (by omega)), (by first | rfl | exact int_to (by omega) | exact sl_to (by omega)), (by first | rfl | exact int_to (by omega) | exact sl_to (by omega)), (by first | rfl | exact int_to (by omega) | exact sl_to (by omega)), trivial⟩, .refl _⟩
  · skip
    refine vc_exit ?_
    refine then_exit ?_
    refine loop_exit ?_
    refine in_eq ?_
    refine then_next ?_
    refine vc_seq ?_
    refine vc_region ?_
    refine vl_det (det_assign rfl) rfl ?_
    refine vl_end [(4, _)] ⟨rfl, trivial⟩ ?_
    refine then_next ?_
    refine vc_ret ?_
    refine ret1 rfl rfl ?_
    have e : T.any (fun y => decide (bgT y wd)) = false := by
      have := ha
      rwa [List.take_of_length_le (by omega)] at this
    exact ⟨⟨-1, rfl, by rw [e]; simp⟩, rfl⟩
theorem conf_d {op nn : Int} {wd : Txt} {fr to : Nat} (hb : Bor B w0 F 1 (.slice A T.length c) T.length (strs T)) (hl : T.length ≤ 1000000000) :
    Does Try.prog B w0 118 [.slice A T.length c, .func (.func 119) #[] #[.pointer (some ⟨g, 0, none⟩)]] (.blk g 88 [.int .i64 op, .int .i64 nn, .string ⟨wd.toArray⟩, .int .u64 (fr : Int), .int .u64 (to : Int)] :: F) (fun r L => r = .bool (T.any (fun y => decide (bgT y wd))) ∧ L = .blk g 88 [.int .i64 op, .int .i64 nn, .string ⟨wd.toArray⟩, .int .u64 (fr : Int), .int .u64 (to : Int)] :: F) := by
  refine fn_walk Try.func118 9 rfl rfl rfl [(0, .slice A T.length c), (1, .func (.func 119) #[] #[.pointer (some ⟨g, 0, none⟩)])] ⟨⟨rfl, rfl⟩, ⟨rfl, rfl⟩, trivial⟩ ?_
  refine vc_seq ?_
  refine vc_region ?_
  refine vl_det (det_assign rfl) rfl ?_
  refine vl_end [(0, _), (1, _)] ⟨rfl, rfl, trivial⟩ ?_
  refine then_next ?_
  refine vc_seq ?_
  refine vc_region ?_
  refine vl_det (det_move rfl) rfl ?_
  refine vl_det (det_move rfl) rfl ?_
  refine vl_call co123 rfl (idxf_d hb hl) rfl ?_
  rintro _ _ ⟨⟨k7, rfl, hk7⟩, hLL⟩
  obtain rfl := hLL.symm
  refine vl_det (det_geq rfl rfl) rfl ?_
  refine vl_det (det_assign rfl) rfl ?_
  refine vl_end [(4, _)] ⟨rfl, trivial⟩ ?_
  refine then_next ?_
  refine vc_ret ?_
  refine ret1 rfl rfl ?_
  exact ⟨congrArg Value.bool (by rw [Bool.eq_iff_iff, decide_eq_true_iff]; exact hk7), rfl⟩
theorem within_d (y : Nat) {op nn : Int} {wd : Txt} {fr to : Nat} : Does Try.prog B w0 121 [.int .u64 (y : Int), .agg #[.int .i64 op, .int .i64 nn, .string ⟨wd.toArray⟩, .int .u64 (fr : Int), .int .u64 (to : Int)]] F (fun r L => r = .bool (decide (fr ≤ y ∧ y ≤ to)) ∧ L = F) := by
  refine fn_walk Try.func121 15 rfl rfl rfl [(0, .int .u64 (y : Int)), (1, .agg #[.int .i64 op, .int .i64 nn, .string ⟨wd.toArray⟩, .int .u64 (fr : Int), .int .u64 (to : Int)])] ⟨⟨rfl, rfl⟩, ⟨rfl, rfl⟩, trivial⟩ ?_
  refine vc_seq ?_
  refine vc_region ?_
  refine vl_eff (eff_box rfl rfl) rfl ?_
  rintro _ _ ⟨g3, rfl, rfl⟩
  refine vl_det (det_assign rfl) rfl ?_
  refine vl_end [(0, _), (3, _)] ⟨rfl, rfl, trivial⟩ ?_
  refine then_next ?_
  refine vc_seq ?_
  refine vc_region ?_
  refine vl_cut 10 14 [] (fr ≤ y ∧ y ≤ to) trivial ?_ ?_
  · skip
    refine vl_det (det_fieldAddr_ Try.underlying38 rfl (by kernel_rfl) rfl rfl) rfl ?_
    refine vl_det (det_load_blk (by kernel_rfl) rfl (by repeat (first | exact .hd | apply Sel.tl)) rfl) rfl ?_
    refine vl_det (det_move rfl) rfl ?_
    refine vl_det (det_leq rfl rfl) rfl ?_
    refine vl_det (det_move rfl) rfl ?_
    refine vl_guardp rfl rfl rfl (fun h9 => ?_) (fun h9 => ?_)
    · skip
      refine vl_det (det_move rfl) rfl ?_
      refine vl_guard_t rfl rfl ?_
      refine vl_det (det_fieldAddr_ Try.underlying38 rfl (by kernel_rfl) rfl rfl) rfl ?_
      refine vl_guard_t rfl rfl ?_
      refine vl_det (det_load_blk (by kernel_rfl) rfl (by repeat (first | exact .hd | apply Sel.tl)) rfl) rfl ?_
      refine vl_guard_t rfl rfl ?_
      refine vl_det (det_leq rfl rfl) rfl ?_
      refine vl_det (det_pick_t rfl rfl) rfl ?_
      exact vl_cut_end trivial (by first | rfl | exact bool_to_t (by first | omega | simp_all) | exact bool_to_f (by first | omega | simp_all) | exact bool_to (by first | omega | simp_all) | exact bool_to_b (by first | omega | simp_all))
    · skip
      refine vl_guard_f rfl rfl rfl rfl ?_
      refine vl_guard_f rfl rfl rfl rfl ?_
      refine vl_guard_f rfl rfl rfl rfl ?_
      refine vl_det (det_pick_f rfl rfl) rfl ?_
      exact vl_cut_end trivial (by first | rfl | exact bool_to_t (by first | omega | simp_all) | exact bool_to_f (by first | omega | simp_all) | exact bool_to (by first | omega | simp_all) | exact bool_to_b (by first | omega | simp_all))
  · skip
    refine vl_det (det_assign rfl) rfl ?_
    refine vl_end [(4, _)] ⟨rfl, trivial⟩ ?_
    refine then_next ?_
    refine vc_ret ?_
    refine ret_wk (L' := F) (.skip (.refl _)) ?_
    refine ret1 rfl rfl ?_
    exact ⟨rfl, rfl⟩
end Go.Proofs.Ytakokckokchacaa
namespace Go.Proofs.Ytakokckokchacaa
open Go.RowKit
set_option linter.unusedVariables false
set_option maxRecDepth 20000
variable {B : Nat} {w0 : World} {F R L M : List Ch} {A A2 AT : Option Addr} {n c c2 cT g : Nat} {x : RecC} {T : List Txt} {s : StepC} {t : Qt}
theorem DoesM.reperm {P : Program} {B : Nat} {w0 : World} {u : Value} {name : String} {args : List Value} {L M : List Ch} {v : Value} (h : DoesM P B w0 u name args M (fun r K => r = v ∧ K = M)) (hp : L.Perm M) : DoesM P B w0 u name args L (fun r K => r = v ∧ K = L) := by
  obtain ⟨t, w, f, r, h1, h2, h3, h4⟩ := h
  exact ⟨t, w, f, r, h1, h2, h3, fun w hw => (h4 w (hw.perm hp)).mono fun e w' ⟨r, K, he, ⟨hr, hK⟩, hs⟩ => by subst hK; exact ⟨r, L, he, ⟨hr, rfl⟩, hs.perm hp.symm⟩⟩
abbrev fcs (x : RecC) (AT : Option Addr) (n cT : Nat) : List Value := [.int .u64 (x.1 : Int), .int .u8 (x.2.1.toNat : Int), .string ⟨x.2.2.1.toArray⟩, .string ⟨x.2.2.2.toArray⟩, .slice AT n cT]
theorem swpR {a b : Ch} {R : List Ch} : (a :: b :: R).Perm (b :: a :: R) := List.Perm.swap b a R
theorem means_leaf (hb : Bor B w0 F 1 (.slice AT T.length cT) T.length (strs T)) (hl : T.length ≤ 1000000000) (s : StepC) :
    Does Try.prog B w0 115 [.agg (StepC.cells s).toArray, .pointer (some ⟨g, 0, none⟩)] (.blk g 76 (fcs x AT T.length cT) :: F) (fun r L => r = .bool (leafM x T s) ∧ L = .blk g 76 (fcs x AT T.length cT) :: F) := by
  obtain ⟨op, nn, wd, fr, to⟩ := s
  obtain ⟨tm, lv, src, txt⟩ := x
  have hlv := lv.toNat_lt
  have hq1 : op = 1 → leafM (tm, lv, src, txt) T (op, nn, wd, fr, to) = decide (wd ∈ T) := fun h => if_pos h
  have hq2 : op = 2 → leafM (tm, lv, src, txt) T (op, nn, wd, fr, to) = T.any (fun y => decide (bgT y wd)) := fun h => by unfold leafM; simp only; rw [if_neg (by omega), if_pos h]
  have hq3 : op = 3 → leafM (tm, lv, src, txt) T (op, nn, wd, fr, to) = decide (fr ≤ tm ∧ tm ≤ to) := fun h => by unfold leafM; simp only; rw [if_neg (by omega), if_neg (by omega), if_pos h]
  have hq4 : ¬ op = 1 → ¬ op = 2 → ¬ op = 3 → leafM (tm, lv, src, txt) T (op, nn, wd, fr, to) = decide (fr ≤ lv.toNat ∧ lv.toNat ≤ to) := fun h1 h2 h3 => by unfold leafM; simp only; rw [if_neg h1, if_neg h2, if_neg h3]
  show Does Try.prog B w0 115 [.agg #[.int .i64 op, .int .i64 nn, .string ⟨wd.toArray⟩, .int .u64 (fr : Int), .int .u64 (to : Int)], .pointer (some ⟨g, 0, none⟩)] (.blk g 76 [.int .u64 (tm : Int), .int .u8 (lv.toNat : Int), .string ⟨src.toArray⟩, .string ⟨txt.toArray⟩, .slice AT T.length cT] :: F) (fun r L => r = .bool (leafM (tm, lv, src, txt) T (op, nn, wd, fr, to)) ∧ L = .blk g 76 [.int .u64 (tm : Int), .int .u8 (lv.toNat : Int), .string ⟨src.toArray⟩, .string ⟨txt.toArray⟩, .slice AT T.length cT] :: F)
  refine fn_walk Try.func115 45 rfl rfl rfl [(0, .agg #[.int .i64 op, .int .i64 nn, .string ⟨wd.toArray⟩, .int .u64 (fr : Int), .int .u64 (to : Int)]), (1, .pointer (some ⟨g, 0, none⟩))] ⟨⟨rfl, rfl⟩, ⟨rfl, rfl⟩, trivial⟩ ?_
  refine vc_seq ?_
  refine vc_region ?_
  refine vl_eff (eff_box rfl rfl) rfl ?_
  rintro _ _ ⟨g2, rfl, rfl⟩
  refine vl_det (det_assign rfl) rfl ?_
  refine vl_end [(1, _), (2, _)] ⟨rfl, rfl, trivial⟩ ?_
  refine then_next ?_
  refine vc_seq ?_
  refine vc_seq ?_
  refine vc_region ?_
  refine vl_det (det_fieldAddr_ Try.underlying88 rfl (by kernel_rfl) rfl rfl) rfl ?_
  refine vl_det (det_fieldAddr_ Try.underlying38 rfl (by kernel_rfl) rfl rfl) rfl ?_
  refine vl_det (det_load_blk (by kernel_rfl) rfl (by repeat (first | exact .hd | apply Sel.tl)) rfl) rfl ?_
  refine vl_end [(1, _), (2, _), (7, _)] ⟨rfl, rfl, rfl, trivial⟩ ?_
  refine then_next ?_
  refine vc_block ?_
  refine vc_seq ?_
  refine vc_region ?_
  refine vl_det (det_eql rfl rfl) rfl ?_
  refine vl_det (det_assign rfl) rfl ?_
  refine vl_end [(1, _), (2, _), (7, _), (8, _)] ⟨rfl, rfl, rfl, rfl, trivial⟩ ?_
  refine then_next ?_
  refine vc_decideU rfl (fun h8 => ?_) (fun h8 => ?_)
  · skip
    refine vc_seq ?_
    refine vq_region (by kernel_rfl) (by kernel_rfl) ?_
    refine vq_det (det_move rfl) rfl ?_
    refine vq_det (det_nilCheck rfl) rfl ?_
    refine vq_det (det_fieldAddr_ Try.underlying76 rfl (by kernel_rfl) rfl rfl) rfl ?_
    refine vq_det (det_load_blk (by kernel_rfl) rfl (by repeat (first | exact .hd | apply Sel.tl)) rfl) rfl ?_
    refine vq_det (det_fieldAddr_ Try.underlying88 rfl (by kernel_rfl) rfl rfl) rfl ?_
    refine vq_det (det_fieldAddr_ Try.underlying38 rfl (by kernel_rfl) rfl rfl) rfl ?_
    refine vq_det (det_load_blk (by kernel_rfl) rfl (by repeat (first | exact .hd | apply Sel.tl)) rfl) rfl ?_
    refine vq_call co117 rfl (cons_d wd (by first | (exact Bor.own (by repeat (first | exact List.Mem.head _ | apply List.Mem.tail))) | (repeat (first | assumption | apply Bor.cons))) hl) (by rintro _ _ ⟨rfl, rfl⟩; exact ⟨rfl, List.Sublist.refl _⟩) rfl ?_
    refine vq_det (det_assign rfl) rfl ?_
    refine vq_end [(4, _)] ⟨rfl, trivial⟩ ?_
    refine then_next ?_
    refine vc_ret ?_
    refine in_ret ?_
    refine then_ret ?_
    refine ret_wk (L' := .blk g 76 [.int .u64 (tm : Int), .int .u8 (lv.toNat : Int), .string ⟨src.toArray⟩, .string ⟨txt.toArray⟩, .slice AT T.length cT] :: F) (.skip (.refl _)) ?_
    refine ret1 rfl rfl ?_
    exact ⟨by rw [hq1 (by assumption)], rfl⟩
  · skip
    refine vc_seq ?_
    refine vc_region ?_
    refine vl_det (det_eql rfl rfl) rfl ?_
    refine vl_det (det_assign rfl) rfl ?_
    refine vl_end [(1, _), (2, _), (7, _), (18, _)] ⟨rfl, rfl, rfl, rfl, trivial⟩ ?_
    refine then_next ?_
    refine vc_decideU rfl (fun h18 => ?_) (fun h18 => ?_)
    · skip
      refine vc_seq ?_
      refine vc_region ?_
      refine vl_det (det_move rfl) rfl ?_
      refine vl_det (det_nilCheck rfl) rfl ?_
      refine vl_det (det_fieldAddr_ Try.underlying76 rfl (by kernel_rfl) rfl rfl) rfl ?_
      refine vl_det (det_load_blk (by kernel_rfl) rfl (by repeat (first | exact .hd | apply Sel.tl)) rfl) rfl ?_
      refine vl_det (det_makeFunc rfl rfl) rfl ?_
      refine vl_call co118 rfl (conf_d (by first | (exact Bor.own (by repeat (first | exact List.Mem.head _ | apply List.Mem.tail))) | (repeat (first | assumption | apply Bor.cons))) hl) rfl ?_
      rintro _ _ ⟨rfl, hLL⟩
      obtain rfl := hLL.symm
      refine vl_det (det_assign rfl) rfl ?_
      refine vl_end [(4, _)] ⟨rfl, trivial⟩ ?_
      refine then_next ?_
      refine vc_ret ?_
      refine in_ret ?_
      refine then_ret ?_
      refine ret_wk (L' := .blk g 76 [.int .u64 (tm : Int), .int .u8 (lv.toNat : Int), .string ⟨src.toArray⟩, .string ⟨txt.toArray⟩, .slice AT T.length cT] :: F) (.skip (.refl _)) ?_
      refine ret1 rfl rfl ?_
      exact ⟨by rw [hq2 (by assumption)], rfl⟩
    · skip
      refine vc_seq ?_
      refine vc_region ?_
      refine vl_det (det_eql rfl rfl) rfl ?_
      refine vl_det (det_assign rfl) rfl ?_
      refine vl_end [(1, _), (2, _), (26, _)] ⟨rfl, rfl, rfl, trivial⟩ ?_
      refine then_next ?_
      refine vc_decideU rfl (fun h26 => ?_) (fun h26 => ?_)
      · skip
        refine vc_seq ?_
        refine vq_region (by kernel_rfl) (by kernel_rfl) ?_
        refine vq_det (det_move rfl) rfl ?_
        refine vq_det (det_nilCheck rfl) rfl ?_
        refine vq_det (det_fieldAddr_ Try.underlying76 rfl (by kernel_rfl) rfl rfl) rfl ?_
        refine vq_det (det_fieldAddr_ Try.underlying45 rfl (by kernel_rfl) rfl rfl) rfl ?_
        refine vq_det (det_load_blk (by kernel_rfl) rfl (by repeat (first | exact .hd | apply Sel.tl)) rfl) rfl ?_
        refine vq_det (det_fieldAddr_ Try.underlying88 rfl (by kernel_rfl) rfl rfl) rfl ?_
        refine vq_det (det_load_whole 5 (by kernel_rfl) rfl (by repeat (first | exact .hd | apply Sel.tl)) (by first | rfl | (simp; omega) | (simp [*]; done))) rfl ?_
        refine vq_call co121 rfl (within_d tm) (by rintro _ _ ⟨rfl, rfl⟩; exact ⟨rfl, List.Sublist.refl _⟩) rfl ?_
        refine vq_det (det_assign rfl) rfl ?_
        refine vq_end [(4, _)] ⟨rfl, trivial⟩ ?_
        refine then_next ?_
        refine vc_ret ?_
        refine in_ret ?_
        refine then_ret ?_
        refine ret_wk (L' := .blk g 76 [.int .u64 (tm : Int), .int .u8 (lv.toNat : Int), .string ⟨src.toArray⟩, .string ⟨txt.toArray⟩, .slice AT T.length cT] :: F) (.skip (.refl _)) ?_
        refine ret1 rfl rfl ?_
        exact ⟨by rw [hq3 (by assumption)], rfl⟩
      · skip
        refine vc_skip ?_
        refine in_normal ?_
        refine then_next ?_
        refine vc_seq ?_
        refine vq_region (by kernel_rfl) (by kernel_rfl) ?_
        refine vq_det (det_move rfl) rfl ?_
        refine vq_det (det_nilCheck rfl) rfl ?_
        refine vq_det (det_fieldAddr_ Try.underlying76 rfl (by kernel_rfl) rfl rfl) rfl ?_
        refine vq_det (det_fieldAddr_ Try.underlying45 rfl (by kernel_rfl) rfl rfl) rfl ?_
        refine vq_det (det_load_blk (by kernel_rfl) rfl (by repeat (first | exact .hd | apply Sel.tl)) rfl) rfl ?_
        refine vq_det (det_conv Try.underlying5 Try.underlying36 rfl (w_u64 (by omega) (by omega))) rfl ?_
        refine vq_det (det_fieldAddr_ Try.underlying88 rfl (by kernel_rfl) rfl rfl) rfl ?_
        refine vq_det (det_load_whole 5 (by kernel_rfl) rfl (by repeat (first | exact .hd | apply Sel.tl)) (by first | rfl | (simp; omega) | (simp [*]; done))) rfl ?_
        refine vq_call co121 rfl (within_d lv.toNat) (by rintro _ _ ⟨rfl, rfl⟩; exact ⟨rfl, List.Sublist.refl _⟩) rfl ?_
        refine vq_det (det_assign rfl) rfl ?_
        refine vq_end [(4, _)] ⟨rfl, trivial⟩ ?_
        refine then_next ?_
        refine vc_ret ?_
        refine ret_wk (L' := .blk g 76 [.int .u64 (tm : Int), .int .u8 (lv.toNat : Int), .string ⟨src.toArray⟩, .string ⟨txt.toArray⟩, .slice AT T.length cT] :: F) (.skip (.refl _)) ?_
        refine ret1 rfl rfl ?_
        exact ⟨by rw [hq4 (by assumption) (by assumption) (by assumption)], rfl⟩
def MeQ (B : Nat) (w0 : World) (x : RecC) (T : List Txt) (g : Nat) (AT : Option Addr) (cT : Nat) (t : Qt) : Prop := ∀ (R : List Ch) (u : Value), NV B w0 R t [u] → Bor B w0 R 1 (.slice AT T.length cT) T.length (strs T) →
  DoesM Try.prog B w0 u nmMeans [.pointer (some ⟨g, 0, none⟩)] (.blk g 76 (fcs x AT T.length cT) :: R) (fun r L' => r = .bool (meansT x T t) ∧ L' = .blk g 76 (fcs x AT T.length cT) :: R)
theorem means_not {k : Qt} {u : Value} (hk : NV B w0 F k [u]) (hb : Bor B w0 F 1 (.slice AT T.length cT) T.length (strs T)) (hn : k.isN) (ih : MeQ B w0 x T g AT cT k) :
    Does Try.prog B w0 104 [.agg #[u], .pointer (some ⟨g, 0, none⟩)] (.blk g 76 (fcs x AT T.length cT) :: F) (fun r L => r = .bool (!meansT x T k) ∧ L = .blk g 76 (fcs x AT T.length cT) :: F) := by
  obtain ⟨uy, uv, rfl⟩ := nv_iface hk hn
  refine fn_walk Try.func104 10 rfl rfl rfl [(0, .agg #[.iface uy uv]), (1, .pointer (some ⟨g, 0, none⟩))] ⟨⟨rfl, rfl⟩, ⟨rfl, rfl⟩, trivial⟩ ?_
  refine vc_seq ?_
  refine vc_region ?_
  refine vl_eff (eff_box rfl rfl) rfl ?_
  rintro _ _ ⟨g2, rfl, rfl⟩
  refine vl_det (det_assign rfl) rfl ?_
  refine vl_end [(1, _), (2, _)] ⟨rfl, rfl, trivial⟩ ?_
  refine then_next ?_
  refine vc_seq ?_
  refine vc_region ?_
  refine vl_det (det_fieldAddr_ Try.underlying64 rfl (by kernel_rfl) rfl rfl) rfl ?_
  refine vl_det (det_load_blk (by kernel_rfl) rfl (by repeat (first | exact .hd | apply Sel.tl)) rfl) rfl ?_
  refine vl_det (det_move rfl) rfl ?_
  refine vl_invoke (by kernel_rfl) rfl rfl ((ih _ _ hk.cons_ hb.cons).reperm swpR) rfl ?_
  rintro _ _ ⟨rfl, hLL⟩
  obtain rfl := hLL.symm
  refine vl_det (det_not rfl) rfl ?_
  refine vl_det (det_assign rfl) rfl ?_
  refine vl_end [(4, _)] ⟨rfl, trivial⟩ ?_
  refine then_next ?_
  refine vc_ret ?_
  refine ret_wk (L' := .blk g 76 (fcs x AT T.length cT) :: F) (.skip (.refl _)) ?_
  refine ret1 rfl rfl ?_
  exact ⟨rfl, rfl⟩
theorem means_group {op : Int} {l : List Qt} {vs : List Value} (h67 : op = 6 ∨ op = 7) (hv : Bor B w0 F 1 (.slice A l.length c) l.length vs) (hl : NVs B w0 F l vs) (hb : Bor B w0 F 1 (.slice AT T.length cT) T.length (strs T)) (hn : l.length ≤ 1000000) (ih : ∀ t ∈ l, MeQ B w0 x T g AT cT t) :
    Does Try.prog B w0 107 [.agg #[.int .i64 op, .slice A l.length c], .pointer (some ⟨g, 0, none⟩)] (.blk g 76 (fcs x AT T.length cT) :: F) (fun r L => r = .bool (meansT x T (.group op (ofL l))) ∧ L = .blk g 76 (fcs x AT T.length cT) :: F) := by
  rw [means_grp]
  refine fn_walk Try.func107 27 rfl rfl rfl [(0, .agg #[.int .i64 op, .slice A l.length c]), (1, .pointer (some ⟨g, 0, none⟩))] ⟨⟨rfl, rfl⟩, ⟨rfl, rfl⟩, trivial⟩ ?_
  refine vc_seq ?_
  refine vc_region ?_
  refine vl_eff (eff_box rfl rfl) rfl ?_
  rintro _ _ ⟨g2, rfl, rfl⟩
  refine vl_det (det_assign rfl) rfl ?_
  refine vl_end [(1, _), (2, _)] ⟨rfl, rfl, trivial⟩ ?_
  refine then_next ?_
  refine vc_seq ?_
  refine vc_region ?_
  refine vl_det (det_fieldAddr_ Try.underlying67 rfl (by kernel_rfl) rfl rfl) rfl ?_
  refine vl_det (det_load_blk (by kernel_rfl) rfl (by repeat (first | exact .hd | apply Sel.tl)) rfl) rfl ?_
  refine vl_det (det_eql rfl rfl) rfl ?_
  refine vl_det (det_assign rfl) rfl ?_
  refine vl_end [(1, _), (2, _), (5, _)] ⟨rfl, rfl, rfl, trivial⟩ ?_
  refine then_next ?_
  refine vc_seq ?_
  refine vc_seq ?_
  refine vc_region ?_
  refine vl_det (det_fieldAddr_ Try.underlying67 rfl (by kernel_rfl) rfl rfl) rfl ?_
  refine vl_det (det_load_blk (by kernel_rfl) rfl (by repeat (first | exact .hd | apply Sel.tl)) rfl) rfl ?_
  refine vl_det (det_len_sl Try.underlying65 rfl) rfl ?_
  refine vl_det (det_move rfl) rfl ?_
  refine vl_end [(1, _), (5, _), (12, _), (13, _), (14, _)] ⟨rfl, rfl, rfl, rfl, rfl, trivial⟩ ?_
  refine then_next ?_
  refine vc_block ?_
  refine vc_loopJ (fun zf zL zm => ∃ (i : Nat), (i ≤ l.length ∧ ∀ t ∈ l.take i, meansT x T t = decide (op = 6)) ∧ l.length - i = zm ∧ Sub zf [(1, .pointer (some ⟨g, 0, none⟩)), (5, .bool (decide (op = 6))), (12, .slice A l.length c), (13, .int .i64 l.length), (14, .int .i64 i)] ∧ Wk zL (.blk g 76 (fcs x AT T.length cT) :: F)) _ ⟨0, ⟨Nat.zero_le _, fun t h => absurd h (by simp)⟩, rfl, ⟨(by first | rfl | exact int_to (by omega) | exact sl_to (by omega)), (by first | rfl | exact int_to (by omega) | exact sl_to (by omega)), (by first | rfl | exact int_to (by omega) | exact sl_to (by omega)), (by first | rfl | exact int_to (by omega) | exact sl_to (by omega)), (by first | rfl | exact int_to (by omega) | exact sl_to (by omega)), trivial⟩, .skip (.refl _)⟩ ?_
  rintro _ _ _ ⟨i, ⟨hi, ha⟩, rfl, hs, hp⟩
  refine vc_weaken _ hs (vc_wk hp ?_)
  clear hs hp
  refine vc_seq ?_
  refine vc_region ?_
  refine vl_det (det_lss rfl rfl) rfl ?_
  refine vl_end [(1, _), (5, _), (12, _), (13, _), (14, _), (15, _)] ⟨rfl, rfl, rfl, rfl, rfl, rfl, trivial⟩ ?_
  refine then_next ?_
  refine vc_seq ?_
  refine vc_decideU rfl (fun h15 => ?_) (fun h15 => ?_)
  · skip
    have hil : i < l.length := by omega
    obtain ⟨u, hu, hku⟩ := hl.get hil
    have hmem := getD_mem hil Qt.nil
    have hih := ih _ hmem
    have htk := take_getD hil Qt.nil
    obtain ⟨k, hk⟩ : ∃ k, k = l.getD i .nil := ⟨_, rfl⟩
    rw [← hk] at hku hih hmem htk
    have hu1 : vs[i * 1]? = some u := by rw [Nat.mul_one]; exact hu
    refine vc_skip ?_
    refine then_next ?_
    refine vc_seq ?_
    refine vc_block ?_
    refine vc_seq ?_
    refine vc_region ?_
    refine vl_det (det_indexAddr (size := 1) Try.underlying65 (by kernel_rfl) rfl rfl rfl (by omega) (by first | (exact Bor.own (by repeat (first | exact List.Mem.head _ | apply List.Mem.tail))) | (repeat (first | assumption | apply Bor.cons)))) rfl ?_
    refine vl_det (det_load_row (by kernel_rfl) rfl (by first | (exact Bor.own (by repeat (first | exact List.Mem.head _ | apply List.Mem.tail))) | (repeat (first | assumption | apply Bor.cons))) (by omega) hu1) rfl ?_
    refine vl_det (det_assign rfl) rfl ?_
    refine vl_end [(1, _), (5, _), (7, _), (12, _), (13, _), (14, _)] ⟨rfl, rfl, rfl, rfl, rfl, rfl, trivial⟩ ?_
    refine then_next ?_
    refine vc_seq ?_
    refine vc_region ?_
    refine vl_det (det_move rfl) rfl ?_
    refine vl_det (det_move rfl) rfl ?_
    refine vl_invoke (by kernel_rfl) rfl rfl (hih _ u hku hb) rfl ?_
    rintro _ _ ⟨rfl, hLL⟩
    obtain rfl := hLL.symm
    refine vl_det (det_move rfl) rfl ?_
    refine vl_det (det_bool_neq Try.underlying4 rfl rfl) rfl ?_
    refine vl_end [(1, _), (5, _), (12, _), (13, _), (14, _), (22, _)] ⟨rfl, rfl, rfl, rfl, rfl, rfl, trivial⟩ ?_
    refine then_next ?_
    refine vc_decideU rfl (fun h22 => ?_) (fun h22 => ?_)
    · skip
      refine vc_seq ?_
      refine vc_region ?_
      refine vl_det (det_move rfl) rfl ?_
      refine vl_det (det_notd rfl) rfl ?_
      refine vl_det (det_assign rfl) rfl ?_
      refine vl_end [(4, _)] ⟨rfl, trivial⟩ ?_
      refine then_next ?_
      refine vc_ret ?_
      refine in_ret ?_
      refine then_ret ?_
      refine loop_ret ?_
      refine in_ret ?_
      refine then_ret ?_
      refine ret1 rfl rfl ?_
      refine ⟨congrArg Value.bool ?_, rfl⟩
      by_cases h6 : op = 6
      · rw [if_pos h6, decide_eq_false (fun h => h h6)]
        rw [decide_eq_true h6] at h22
        exact (Bool.eq_false_iff.2 fun h => h22 (List.all_eq_true.1 h k hmem)).symm
      · rw [if_neg h6, decide_eq_true h6]
        rw [decide_eq_false h6, Bool.not_eq_false] at h22
        exact (List.any_eq_true.2 ⟨k, hmem, h22⟩).symm
    · skip
      refine vc_skip ?_
      refine in_normal ?_
      refine then_next ?_
      refine vc_region ?_
      refine vl_det (det_add rfl rfl (w_i64 (by omega) (by omega))) rfl ?_
      refine vl_det (det_move rfl) rfl ?_
      refine vl_end [(1, _), (5, _), (12, _), (13, _), (14, _)] ⟨rfl, rfl, rfl, rfl, rfl, trivial⟩ ?_
      refine in_loop_ ⟨_, by omega, i + 1, ⟨by omega, fun t ht => by
  rw [htk] at ht
  rcases List.mem_append.1 ht with h | h
  · exact ha t h
  · rw [List.mem_singleton.1 h]; exact Classical.not_not.1 h22⟩, rfl, ⟨(by first | rfl | exact int_to (by omega) | exact sl_to (by omega)), (by first | rfl | exact int_to (by omega) | exact sl_to (by omega)), (by first | rfl | exact int_to (by omega) | exact sl_to (by omega)), (by first | rfl | exact int_to (by omega) | exact sl_to (by omega)), (by first | rfl | exact int_to (by omega) | exact sl_to (by omega)), trivial⟩, .refl _⟩
  · skip
    refine vc_exit ?_
    refine then_exit ?_
    refine loop_exit ?_
    refine in_eq ?_
    refine then_next ?_
    refine vc_seq ?_
    refine vc_region ?_
    refine vl_det (det_move rfl) rfl ?_
    refine vl_det (det_assign rfl) rfl ?_
    refine vl_end [(4, _)] ⟨rfl, trivial⟩ ?_
    refine then_next ?_
    refine vc_ret ?_
    refine ret1 rfl rfl ?_
    rw [List.take_of_length_le (by omega)] at ha
    refine ⟨congrArg Value.bool ?_, rfl⟩
    by_cases h6 : op = 6
    · rw [if_pos h6, decide_eq_true h6]
      rw [decide_eq_true h6] at ha
      exact (List.all_eq_true.2 fun t ht => ha t ht).symm
    · rw [if_neg h6, decide_eq_false h6]
      rw [decide_eq_false h6] at ha
      exact (Bool.eq_false_iff.2 fun h => by
        obtain ⟨t, ht, h⟩ := List.any_eq_true.1 h
        rw [ha t ht] at h; cases h).symm
theorem means_m (hlT : T.length ≤ 1000000000) {t : Qt} (h1 : t.isN) (h2 : t.wf) (hl : t.st.length ≤ 1000000) : MeQ B w0 x T g AT cT t := by
  refine (Qt.ind (P := fun t => t.st.length ≤ 1000000 → MeQ B w0 x T g AT cT t) (fun s h1 h2 => ?_) (fun k h1 h2 ih => ?_) (fun op l h1 h2 h3 ih => ?_) t h2).1 h1 hl
  · intro hl R u hu hb
    obtain rfl : u = _ := by simpa using (show [u] = _ from hu)
    exact ⟨_, _, _, _, rfl, fun w => by kernel_rfl, co115, means_leaf hb hlT s⟩
  · intro hl R u hu hb
    obtain ⟨x, hx, hk⟩ := hu
    obtain rfl : u = _ := by simpa using hx
    have hl' : k.st.length ≤ 1000000 := by simp [Qt.st] at hl; omega
    exact ⟨_, _, _, _, rfl, fun w => by kernel_rfl, co104, means_not hk hb h1 (ih hl')⟩
  · intro hl R u hu hb
    obtain ⟨A, c, vs, rfl, hv, hvs⟩ := nv_group hu
    have hS : (Qt.group op (ofL l)).st = l.flatMap Qt.st ++ [(op, (l.length : Int), [], 0, 0)] := by show (ofL l).st ++ _ = _; rw [ofL_st, ofL_len]
    have hl' : (l.flatMap Qt.st).length + 1 ≤ 1000000 := by rw [hS] at hl; simpa using hl
    have hn := flat_len h3
    exact ⟨_, _, _, _, rfl, fun w => by kernel_rfl, co107, means_group h1 hv hvs hb (by omega) fun t ht => ih t ht (by have : t.st.length ≤ _ := mem_flat_len ht; omega)⟩
end Go.Proofs.Ytakokckokchacaa
