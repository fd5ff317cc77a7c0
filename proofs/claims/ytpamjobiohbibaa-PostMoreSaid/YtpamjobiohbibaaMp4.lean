/-
  Texts of one proof, joined: part 4. No condition.
-/
import Derived.Test.YtpamjobiohbibaaMp3
import Derived.ProofKit
import Derived.OpenShut
import Derived.ShutString
import Derived.ChangeOld
import Derived.Deep.Slices
import Derived.RangeFuncFrom
import Derived.RangeFuncLeaves
import Derived.RangeFuncCalls
import Derived.OrdersIn
namespace Go.Proofs.Ytpamjobiohbibaa
open Go.RowKit
set_option linter.unusedVariables false
variable {B : Nat} {w0 : World} {F : List Ch}
theorem wordAt_stop (T : List UInt8) (m : Nat) (hm : m ≤ 24) (hp : ∀ x ∈ T.take m, small x ≠ 0) (hs : m = T.length ∨ (∃ c, T[m]? = some c ∧ small c = 0) ∨ m = 24) : wordAt T = (T.take m).map small := by
  have e : T = T.take m ++ T.drop m := (List.take_append_drop m T).symm
  have hp' : ∀ x ∈ T.take m, (fun c : UInt8 => decide (small c ≠ 0)) x = true := fun x hx => decide_eq_true (hp x hx)
  have key : T.takeWhile (fun c => decide (small c ≠ 0)) = T.take m ++ (T.drop m).takeWhile (fun c => decide (small c ≠ 0)) := by
    conv => lhs; rw [e]
    rw [List.takeWhile_append_of_pos hp']
  unfold wordAt
  rw [key, List.map_append]
  have hml : ((T.take m).map small).length ≤ 24 := by simp; omega
  rcases hs with h | ⟨c, h, h0⟩ | h
  · have : T.drop m = [] := by rw [h]; exact List.drop_length
    rw [this, List.takeWhile_nil, List.map_nil, List.append_nil]
    exact List.take_of_length_le hml
  · have hd : T.drop m = c :: T.drop (m + 1) := by
      obtain ⟨hlt, rfl⟩ := List.getElem?_eq_some_iff.1 h
      exact List.drop_eq_getElem_cons hlt
    rw [hd, List.takeWhile_cons, if_neg (by simp [h0]), List.map_nil, List.append_nil]
    exact List.take_of_length_le hml
  · subst h
    rcases Nat.lt_or_ge T.length 24 with h | h
    · have : T.drop 24 = [] := List.drop_eq_nil_of_le (by omega)
      rw [this, List.takeWhile_nil, List.map_nil, List.append_nil]
      exact List.take_of_length_le hml
    · have hl : ((T.take 24).map small).length = 24 := by simp; omega
      rw [List.take_append_of_le_length (by omega), List.take_of_length_le (by omega)]
/-- the document's place: what was found, and whether a letter stands before -/
def RefAt (l : List UInt8) (i : Nat) (OUT : List (List UInt8)) (prev : Bool) : Prop :=
  OUT ++ refW prev (l.drop i) = refW false l ∧ (i = 0 → prev = false) ∧ (∀ c, 0 < i → l[i - 1]? = some c → prev = decide (small c ≠ 0)) ∧ OUT.length ≤ i
theorem RefAt.start (l : List UInt8) : RefAt l 0 [] false := ⟨rfl, fun _ => rfl, fun _ h => absurd h (by omega), Nat.le_refl _⟩
theorem RefAt.skip {l : List UInt8} {i : Nat} {OUT : List (List UInt8)} {prev : Bool} {c : UInt8} (h : RefAt l i OUT prev) (hc : l[i]? = some c) (hs : small c = 0 ∨ prev = true) : RefAt l (i + 1) OUT (decide (small c ≠ 0)) := by
  obtain ⟨hlt, rfl⟩ := List.getElem?_eq_some_iff.1 hc
  refine ⟨?_, fun h => by omega, fun c' _ hc' => ?_, by have := h.2.2.2; omega⟩
  · have := h.1
    rw [List.drop_eq_getElem_cons hlt, refW, if_pos hs] at this
    exact this
  · rw [Nat.add_sub_cancel, hc] at hc'
    injection hc' with hc'
    rw [hc']
theorem RefAt.put {l : List UInt8} {i : Nat} {OUT : List (List UInt8)} {prev : Bool} {c : UInt8} (h : RefAt l i OUT prev) (hc : l[i]? = some c) (hs : small c ≠ 0) (hp : prev = false) : RefAt l (i + 1) (OUT ++ [wordAt (l.drop i)]) (decide (small c ≠ 0)) := by
  obtain ⟨hlt, rfl⟩ := List.getElem?_eq_some_iff.1 hc
  refine ⟨?_, fun h => by omega, fun c' _ hc' => ?_, by have := h.2.2.2; simp; omega⟩
  · have := h.1
    rw [List.drop_eq_getElem_cons hlt, refW, if_neg (by simp [hs, hp])] at this
    rw [← this, List.append_assoc, decide_eq_true hs, List.drop_eq_getElem_cons hlt]
    rfl
  · rw [Nat.add_sub_cancel, hc] at hc'
    injection hc' with hc'
    rw [hc']
theorem RefAt.done {l : List UInt8} {OUT : List (List UInt8)} {prev : Bool} (h : RefAt l l.length OUT prev) : OUT = wordsL l := by
  have := h.1
  rw [List.drop_length] at this
  rw [words_ref, ← this]
  simp [refW]
/-- inside: the letters taken from place i on -/
def TakenAt (l : List UInt8) (i m : Nat) (R : List UInt8) : Prop := R = ((l.drop i).take m).map small ∧ ∀ x ∈ (l.drop i).take m, small x ≠ 0
theorem TakenAt.more {l : List UInt8} {i m : Nat} {R : List UInt8} {c : UInt8} (h : TakenAt l i m R) (hc : l[i + m]? = some c) (hs : small c ≠ 0) : TakenAt l i (m + 1) (R ++ [small c]) := by
  have e : (l.drop i).take (m + 1) = (l.drop i).take m ++ [c] := by
    rw [List.take_add_one, List.getElem?_drop, hc]; rfl
  refine ⟨by rw [e, List.map_append, ← h.1]; rfl, fun x hx => ?_⟩
  rw [e] at hx
  rcases List.mem_append.1 hx with hx | hx
  · exact h.2 x hx
  · simp at hx; subst hx; exact hs
theorem TakenAt.len {l : List UInt8} {i m : Nat} {R : List UInt8} (h : TakenAt l i m R) (hm : i + m ≤ l.length) : R.length = m := by
  rw [h.1]; simp; omega
theorem TakenAt.stop {l : List UInt8} {i m : Nat} {R : List UInt8} (h : TakenAt l i m R) (hm : m ≤ 24) (hi : i + m ≤ l.length) (hs : i + m = l.length ∨ (∃ c, l[i + m]? = some c ∧ small c = 0) ∨ m = 24) : R = wordAt (l.drop i) := by
  rw [h.1, wordAt_stop _ m hm h.2]
  rcases hs with h | ⟨c, h1, h2⟩ | h
  · left; simp; omega
  · right; left; exact ⟨c, by rw [List.getElem?_drop]; exact h1, h2⟩
  · right; right; exact h

theorem RefAt.test {l : List UInt8} {k : Nat} {OUT : List (List UInt8)} {prev : Bool} (h : RefAt l k OUT prev) (hk : k ≤ l.length) : prev = decide (0 < k ∧ small (l.getD (k - 1) 0) ≠ 0) := by
  rcases Nat.eq_zero_or_pos k with h0 | h0
  · rw [h.2.1 h0, decide_eq_false (by omega)]
  · have hlt : k - 1 < l.length := by omega
    rw [h.2.2.1 (l.getD (k - 1) 0) h0 (by rw [List.getElem?_eq_getElem hlt]; simp [List.getD, List.getElem?_eq_getElem hlt])]
    simp [h0]
theorem get_getD {l : List UInt8} {k : Nat} (h : k < l.length) : l[k]? = some (l.getD k 0) := by
  rw [List.getElem?_eq_getElem h]; simp [List.getD, List.getElem?_eq_getElem h]
theorem TakenAt.stop' {l : List UInt8} {i m : Nat} {R : List UInt8} (h : TakenAt l i m R) (hm : m ≤ 24) (hi : i + m ≤ l.length) (hs : ¬ ((i + m < l.length ∧ small (l.getD (i + m) 0) ≠ 0) ∧ m < 24)) : R = wordAt (l.drop i) := by
  refine h.stop hm hi ?_
  by_cases h1 : i + m < l.length
  · by_cases h2 : small (l.getD (i + m) 0) = 0
    · exact .inr (.inl ⟨_, get_getD h1, h2⟩)
    · exact .inr (.inr (Nat.le_antisymm hm (Nat.le_of_not_lt fun h => hs ⟨⟨h1, h2⟩, h⟩)))
  · exact .inl (by omega)
set_option maxHeartbeats 400000 in
theorem rwords_d (l : List UInt8) (hl : l.length ≤ 274877906944) : Does Try.prog B w0 56 [.string ⟨l.toArray⟩] F (fun r L => ∃ A c, r = .slice A (wordsL l).length c ∧ L = .own 9 1 A (wordsL l).length c (strs (wordsL l)) :: F) := by
  refine fn_walk Try.func56 62 rfl rfl rfl [(0, .string ⟨l.toArray⟩)] ⟨⟨rfl, rfl⟩, trivial⟩ ?_
  refine vc_seq ?_
  refine vc_region ?_
  refine vl_det (det_assign rfl) rfl ?_
  refine vl_end [(0, _)] ⟨rfl, trivial⟩ ?_
  refine then_next ?_
  refine vc_seq ?_
  refine vc_region ?_
  refine vl_det (det_assign rfl) rfl ?_
  refine vl_end [(0, _), (3, _)] ⟨rfl, rfl, trivial⟩ ?_
  refine then_next ?_
  refine vc_seq ?_
  refine vc_seq ?_
  refine vc_region ?_
  refine vl_det (det_assign rfl) rfl ?_
  refine vl_end [(0, _), (3, _), (4, _)] ⟨rfl, rfl, rfl, trivial⟩ ?_
  refine then_next ?_
  refine vc_block ?_
  refine vc_nil_row 9 1 none ?_
  refine vc_loopJ (fun zf zL zm => ∃ (k n : Nat) (OUT : List (List UInt8)) (prev : Bool) (A : Option Addr) (c : Nat), (k ≤ l.length ∧ RefAt l k OUT prev ∧ n = OUT.length) ∧ l.length - k = zm ∧ Sub zf [(0, .string ⟨l.toArray⟩), (3, .slice A n c), (4, .int .i64 k)] ∧ Wk zL (.own 9 1 A n c (strs OUT) :: F)) _ ⟨0, 0, [], false, none, 0, ⟨Nat.zero_le _, RefAt.start l, rfl⟩, rfl, ⟨(by first | rfl | exact int_to (by omega) | exact sl_to (by omega)), (by first | rfl | exact int_to (by omega) | exact sl_to (by omega)), (by first | rfl | exact int_to (by omega) | exact sl_to (by omega)), trivial⟩, .refl _⟩ ?_
  rintro _ _ _ ⟨k, n, OUT, prev, A, c, ⟨hk, hR, hn⟩, rfl, hs, hp⟩
  refine vc_weaken _ hs (vc_wk hp ?_)
  clear hs hp
  have hol := hR.2.2.2
  refine vc_seq ?_
  refine vc_seq ?_
  refine vc_region ?_
  refine vl_det (det_move rfl) rfl ?_
  refine vl_det (det_move rfl) rfl ?_
  refine vl_det (det_len_s Try.underlying9 rfl) rfl ?_
  refine vl_det (det_lss rfl rfl) rfl ?_
  refine vl_end [(0, _), (3, _), (4, _), (10, _)] ⟨rfl, rfl, rfl, rfl, trivial⟩ ?_
  refine then_next ?_
  refine vc_decideU rfl (fun h10 => ?_) (fun h10 => ?_)
  · skip
    refine vc_skip ?_
    refine then_next ?_
    refine vc_seq ?_
    refine vc_block ?_
    refine vc_seq ?_
    refine vc_seq ?_
    refine vc_region ?_
    refine vl_cut 17 29 [(0, _), (3, _), (4, _)] (small (l.getD k 0) = 0 ∨ (0 < k ∧ small (l.getD (k - 1) 0) ≠ 0)) ⟨rfl, rfl, rfl, trivial⟩ ?_ ?_
    · skip
      refine vl_det (det_move rfl) rfl ?_
      refine vl_det (det_move rfl) rfl ?_
      refine vl_det (det_at_str Try.underlying9 rfl rfl rfl (by omega)) rfl ?_
      refine vl_call co98 rfl (rsmall_d _) rfl ?_
      rintro _ _ ⟨rfl, hLL⟩
      obtain rfl := hLL.symm
      refine vl_det (det_eql rfl rfl) rfl ?_
      refine vl_det (det_move rfl) rfl ?_
      refine vl_guardn rfl rfl rfl (fun h18 => ?_) (fun h18 => ?_)
      · skip
        refine vl_det (det_move rfl) rfl ?_
        refine vl_guard_t rfl rfl ?_
        refine vl_det (det_gtr rfl rfl) rfl ?_
        refine vl_guard_t rfl rfl ?_
        refine vl_det (det_move rfl) rfl ?_
        refine vl_guardp rfl rfl rfl (fun h21 => ?_) (fun h21 => ?_)
        · skip
          refine vl_det (det_move rfl) rfl ?_
          refine vl_guard_t rfl rfl ?_
          refine vl_det (det_move rfl) rfl ?_
          refine vl_guard_t rfl rfl ?_
          refine vl_det (det_sub rfl rfl (w_i64 (by omega) (by omega))) rfl ?_
          refine vl_guard_t rfl rfl ?_
          refine vl_det (det_at_str (i := k - 1) Try.underlying9 rfl rfl (by omega) (by omega)) rfl ?_
          refine vl_guard_t rfl rfl ?_
          refine vl_call co98 rfl (rsmall_d _) rfl ?_
          rintro _ _ ⟨rfl, hLL⟩
          obtain rfl := hLL.symm
          refine vl_guard_t rfl rfl ?_
          refine vl_det (det_neq rfl rfl) rfl ?_
          refine vl_guard_t rfl rfl ?_
          refine vl_det (det_pick_t rfl rfl) rfl ?_
          refine vl_det (det_pick_f rfl rfl) rfl ?_
          exact vl_cut_end ⟨rfl, rfl, rfl, trivial⟩ (by first | rfl | exact bool_to_t (by first | omega | (simp only [← UInt8.toNat_inj, ne_eq] at *; simp at *; omega)) | exact bool_to_f (by first | omega | (simp only [← UInt8.toNat_inj, ne_eq] at *; simp at *; omega)) | exact bool_to (by first | omega | (simp only [← UInt8.toNat_inj, ne_eq] at *; simp at *; omega)) | exact bool_to_b (by first | omega | (simp only [← UInt8.toNat_inj, ne_eq] at *; simp at *; omega)))
        · skip
          refine vl_guard_f rfl rfl rfl rfl ?_
          refine vl_guard_f rfl rfl rfl rfl ?_
          refine vl_guard_f rfl rfl rfl rfl ?_
          refine vl_guard_f rfl rfl rfl rfl ?_
          refine vl_guard_f rfl rfl rfl rfl ?_
          refine vl_guard_t rfl rfl ?_
          refine vl_det (det_pick_f rfl rfl) rfl ?_
          refine vl_det (det_pick_f rfl rfl) rfl ?_
          exact vl_cut_end ⟨rfl, rfl, rfl, trivial⟩ (by first | rfl | exact bool_to_t (by first | omega | (simp only [← UInt8.toNat_inj, ne_eq] at *; simp at *; omega)) | exact bool_to_f (by first | omega | (simp only [← UInt8.toNat_inj, ne_eq] at *; simp at *; omega)) | exact bool_to (by first | omega | (simp only [← UInt8.toNat_inj, ne_eq] at *; simp at *; omega)) | exact bool_to_b (by first | omega | (simp only [← UInt8.toNat_inj, ne_eq] at *; simp at *; omega)))
      · skip
        refine vl_guard_f rfl rfl rfl rfl ?_
        refine vl_guard_f rfl rfl rfl rfl ?_
        refine vl_guard_u rfl rfl rfl ?_
        refine vl_guard_u rfl rfl rfl ?_
        refine vl_guard_u rfl rfl rfl ?_
        refine vl_guard_u rfl rfl rfl ?_
        refine vl_guard_u rfl rfl rfl ?_
        refine vl_guard_u rfl rfl rfl ?_
        refine vl_guard_f rfl rfl rfl rfl ?_
        refine vl_det (det_pick_t rfl rfl) rfl ?_
        exact vl_cut_end ⟨rfl, rfl, rfl, trivial⟩ (by first | rfl | exact bool_to_t (by first | omega | (simp only [← UInt8.toNat_inj, ne_eq] at *; simp at *; omega)) | exact bool_to_f (by first | omega | (simp only [← UInt8.toNat_inj, ne_eq] at *; simp at *; omega)) | exact bool_to (by first | omega | (simp only [← UInt8.toNat_inj, ne_eq] at *; simp at *; omega)) | exact bool_to_b (by first | omega | (simp only [← UInt8.toNat_inj, ne_eq] at *; simp at *; omega)))
    · skip
      refine vl_end [(0, _), (3, _), (4, _), (29, _)] ⟨rfl, rfl, rfl, rfl, trivial⟩ ?_
      refine then_next ?_
      refine vc_decideU rfl (fun h29 => ?_) (fun h29 => ?_)
      · skip
        have hprev := hR.test hk
        refine vc_exit ?_
        refine then_exit ?_
        refine in_eq ?_
        refine then_next ?_
        refine vc_region ?_
        refine vl_det (det_move rfl) rfl ?_
        refine vl_det (det_add rfl rfl (w_i64 (by omega) (by omega))) rfl ?_
        refine vl_det (det_assign rfl) rfl ?_
        refine vl_end [(0, _), (3, _), (4, _)] ⟨rfl, rfl, rfl, trivial⟩ ?_
        refine in_loop_ ⟨_, by omega, k + 1, n, OUT, _, A, c, ⟨by omega, hR.skip (get_getD (by omega)) (by rw [hprev]; simpa using h29), hn⟩, rfl, ⟨(by first | rfl | exact int_to (by omega) | exact sl_to (by omega)), (by first | rfl | exact int_to (by omega) | exact sl_to (by omega)), (by first | rfl | exact int_to (by omega) | exact sl_to (by omega)), trivial⟩, .refl _⟩
      · skip
        refine vc_skip ?_
        refine then_next ?_
        refine vc_seq ?_
        refine vc_region ?_
        refine vl_det (det_assign rfl) rfl ?_
        refine vl_end [(0, _), (3, _), (4, _), (5, _)] ⟨rfl, rfl, rfl, rfl, trivial⟩ ?_
        refine then_next ?_
        refine vc_seq ?_
        refine vc_seq ?_
        refine vc_region ?_
        refine vl_det (det_move rfl) rfl ?_
        refine vl_det (det_assign rfl) rfl ?_
        refine vl_end [(0, _), (3, _), (4, _), (5, _), (6, _)] ⟨rfl, rfl, rfl, rfl, rfl, trivial⟩ ?_
        refine then_next ?_
        refine vc_block ?_
        refine vc_nil_row 5 1 none ?_
        refine vc_loopJ (fun zf zL zm => ∃ (m : Nat) (R : List UInt8) (A2 : Option Addr) (c2 : Nat), (m ≤ 24 ∧ k + m ≤ l.length ∧ TakenAt l k m R) ∧ l.length - (k + m) = zm ∧ Sub zf [(0, .string ⟨l.toArray⟩), (3, .slice A n c), (4, .int .i64 k), (5, .slice A2 m c2), (6, .int .i64 ((k + m : Nat) : Int))] ∧ Wk zL (.own 5 1 A2 m c2 (bv R) :: .own 9 1 A n c (strs OUT) :: F)) _ ⟨0, [], none, 0, ⟨by omega, by omega, rfl, by simp⟩, rfl, ⟨(by first | rfl | exact int_to (by omega) | exact sl_to (by omega)), (by first | rfl | exact int_to (by omega) | exact sl_to (by omega)), (by first | rfl | exact int_to (by omega) | exact sl_to (by omega)), (by first | rfl | exact int_to (by omega) | exact sl_to (by omega)), (by first | rfl | exact int_to (by omega) | exact sl_to (by omega)), trivial⟩, .refl _⟩ ?_
        rintro _ _ _ ⟨m, R, A2, c2, ⟨hm, hkm, hT⟩, rfl, hs, hp⟩
        refine vc_weaken _ hs (vc_wk hp ?_)
        clear hs hp
        refine vc_seq ?_
        refine vc_seq ?_
        refine vc_region ?_
        refine vl_cut 16 46 [(0, _), (3, _), (4, _), (5, _), (6, _)] ((k + m < l.length ∧ small (l.getD (k + m) 0) ≠ 0) ∧ m < 24) ⟨rfl, rfl, rfl, rfl, rfl, trivial⟩ ?_ ?_
        · skip
          refine vl_det (det_move rfl) rfl ?_
          refine vl_det (det_move rfl) rfl ?_
          refine vl_det (det_len_s Try.underlying9 rfl) rfl ?_
          refine vl_det (det_lss rfl rfl) rfl ?_
          refine vl_det (det_move rfl) rfl ?_
          refine vl_guardp rfl rfl rfl (fun h35 => ?_) (fun h35 => ?_)
          · skip
            refine vl_det (det_move rfl) rfl ?_
            refine vl_guard_t rfl rfl ?_
            refine vl_det (det_move rfl) rfl ?_
            refine vl_guard_t rfl rfl ?_
            refine vl_det (det_at_str Try.underlying9 rfl rfl rfl (by omega)) rfl ?_
            refine vl_guard_t rfl rfl ?_
            refine vl_call co98 rfl (rsmall_d _) rfl ?_
            rintro _ _ ⟨rfl, hLL⟩
            obtain rfl := hLL.symm
            refine vl_guard_t rfl rfl ?_
            refine vl_det (det_neq rfl rfl) rfl ?_
            refine vl_det (det_pick_t rfl rfl) rfl ?_
            refine vl_det (det_move rfl) rfl ?_
            refine vl_guardp rfl rfl rfl (fun h42 => ?_) (fun h42 => ?_)
            · skip
              refine vl_det (det_move rfl) rfl ?_
              refine vl_guard_t rfl rfl ?_
              refine vl_det (det_len_sl Try.underlying41 rfl) rfl ?_
              refine vl_guard_t rfl rfl ?_
              refine vl_det (det_lss rfl rfl) rfl ?_
              refine vl_det (det_pick_t rfl rfl) rfl ?_
              exact vl_cut_end ⟨rfl, rfl, rfl, rfl, rfl, trivial⟩ (by first | rfl | exact bool_to_t (by first | omega | (simp only [← UInt8.toNat_inj, ne_eq] at *; simp at *; omega)) | exact bool_to_f (by first | omega | (simp only [← UInt8.toNat_inj, ne_eq] at *; simp at *; omega)) | exact bool_to (by first | omega | (simp only [← UInt8.toNat_inj, ne_eq] at *; simp at *; omega)) | exact bool_to_b (by first | omega | (simp only [← UInt8.toNat_inj, ne_eq] at *; simp at *; omega)))
            · skip
              refine vl_guard_f rfl rfl rfl rfl ?_
              refine vl_guard_f rfl rfl rfl rfl ?_
              refine vl_det (det_pick_f rfl rfl) rfl ?_
              exact vl_cut_end ⟨rfl, rfl, rfl, rfl, rfl, trivial⟩ (by first | rfl | exact bool_to_t (by first | omega | (simp only [← UInt8.toNat_inj, ne_eq] at *; simp at *; omega)) | exact bool_to_f (by first | omega | (simp only [← UInt8.toNat_inj, ne_eq] at *; simp at *; omega)) | exact bool_to (by first | omega | (simp only [← UInt8.toNat_inj, ne_eq] at *; simp at *; omega)) | exact bool_to_b (by first | omega | (simp only [← UInt8.toNat_inj, ne_eq] at *; simp at *; omega)))
          · skip
            refine vl_guard_f rfl rfl rfl rfl ?_
            refine vl_guard_f rfl rfl rfl rfl ?_
            refine vl_guard_f rfl rfl rfl rfl ?_
            refine vl_guard_f rfl rfl rfl rfl ?_
            refine vl_det (det_pick_f rfl rfl) rfl ?_
            refine vl_det (det_move rfl) rfl ?_
            refine vl_guard_f rfl rfl rfl rfl ?_
            refine vl_guard_f rfl rfl rfl rfl ?_
            refine vl_guard_f rfl rfl rfl rfl ?_
            refine vl_det (det_pick_f rfl rfl) rfl ?_
            exact vl_cut_end ⟨rfl, rfl, rfl, rfl, rfl, trivial⟩ (by first | rfl | exact bool_to_t (by first | omega | (simp only [← UInt8.toNat_inj, ne_eq] at *; simp at *; omega)) | exact bool_to_f (by first | omega | (simp only [← UInt8.toNat_inj, ne_eq] at *; simp at *; omega)) | exact bool_to (by first | omega | (simp only [← UInt8.toNat_inj, ne_eq] at *; simp at *; omega)) | exact bool_to_b (by first | omega | (simp only [← UInt8.toNat_inj, ne_eq] at *; simp at *; omega)))
        · skip
          refine vl_end [(0, _), (3, _), (4, _), (5, _), (6, _), (46, _)] ⟨rfl, rfl, rfl, rfl, rfl, rfl, trivial⟩ ?_
          refine then_next ?_
          refine vc_decideU rfl (fun h46 => ?_) (fun h46 => ?_)
          · skip
            refine vc_skip ?_
            refine then_next ?_
            refine vc_seq ?_
            refine vc_block ?_
            refine vc_region ?_
            refine vl_det (det_move rfl) rfl ?_
            refine vl_det (det_move rfl) rfl ?_
            refine vl_det (det_move rfl) rfl ?_
            refine vl_det (det_at_str Try.underlying9 rfl rfl rfl (by omega)) rfl ?_
            refine vl_call co98 rfl (rsmall_d _) rfl ?_
            rintro _ _ ⟨rfl, hLL⟩
            obtain rfl := hLL.symm
            refine vl_push slT41 rfl rfl rfl rfl rfl (fun _ => rfl) (by repeat (first | exact .hd | apply Sel.tl)) (by omega) (by omega) ?_
            intro _ A55 c55
            refine vl_det (det_assign rfl) rfl ?_
            refine vl_end [(0, _), (3, _), (4, _), (5, _), (6, _)] ⟨rfl, rfl, rfl, rfl, rfl, trivial⟩ ?_
            refine in_normal ?_
            refine then_next ?_
            refine vc_region ?_
            refine vl_det (det_move rfl) rfl ?_
            refine vl_det (det_add rfl rfl (w_i64 (by omega) (by omega))) rfl ?_
            refine vl_det (det_assign rfl) rfl ?_
            refine vl_end [(0, _), (3, _), (4, _), (5, _), (6, _)] ⟨rfl, rfl, rfl, rfl, rfl, trivial⟩ ?_
            refine in_loop_ ⟨_, by omega, m + 1, R ++ [small (l.getD (k + m) 0)], A55, c55, ⟨by omega, by omega, hT.more (get_getD (by omega)) h46.1.2⟩, rfl, ⟨(by first | rfl | exact int_to (by omega) | exact sl_to (by omega)), (by first | rfl | exact int_to (by omega) | exact sl_to (by omega)), (by first | rfl | exact int_to (by omega) | exact sl_to (by omega)), (by first | rfl | exact int_to (by omega) | exact sl_to (by omega)), (by first | rfl | exact int_to (by omega) | exact sl_to (by omega)), trivial⟩, wk_own rfl (by simp [bv]) (.refl _)⟩
          · skip
            refine vc_exit ?_
            refine then_exit ?_
            refine loop_exit ?_
            refine in_eq ?_
            refine then_next ?_
            refine vc_region ?_
            refine vl_det (det_move rfl) rfl ?_
            refine vl_det (det_move rfl) rfl ?_
            refine vl_det (det_bstr Try.underlying41 Try.underlying5 Try.underlying9 rfl (by first | (exact Bor.own (by repeat (first | exact List.Mem.head _ | apply List.Mem.tail))) | (repeat (first | assumption | apply Bor.cons)))) rfl ?_
            refine vl_push slT26 rfl rfl rfl rfl rfl (fun _ => rfl) (by repeat (first | exact .hd | apply Sel.tl)) (by omega) (by omega) ?_
            intro _ A60 c60
            refine vl_det (det_assign rfl) rfl ?_
            refine vl_end [(0, _), (3, _), (4, _)] ⟨rfl, rfl, rfl, trivial⟩ ?_
            refine in_normal ?_
            refine then_next ?_
            refine vc_region ?_
            refine vl_det (det_move rfl) rfl ?_
            refine vl_det (det_add rfl rfl (w_i64 (by omega) (by omega))) rfl ?_
            refine vl_det (det_assign rfl) rfl ?_
            refine vl_end [(0, _), (3, _), (4, _)] ⟨rfl, rfl, rfl, trivial⟩ ?_
            have hprev := hR.test hk
            have hst := hT.stop' hm hkm h46
            have hput := hR.put (c := l.getD k 0) (get_getD (by omega)) (fun e => h29 (.inl e)) (by rw [hprev]; exact decide_eq_false (fun e => h29 (.inr e)))
            rw [← hst] at hput
            refine in_loop_ ⟨_, by omega, k + 1, n + 1, OUT ++ [R], _, A60, c60, ⟨by omega, hput, by simp [hn]⟩, rfl, ⟨(by first | rfl | exact int_to (by omega) | exact sl_to (by omega)), (by first | rfl | exact int_to (by omega) | exact sl_to (by omega)), (by first | rfl | exact int_to (by omega) | exact sl_to (by omega)), trivial⟩, .skip (wk_own rfl (by simp [strs]) (.refl _))⟩
  · skip
    refine vc_exit ?_
    refine then_exit ?_
    refine loop_exit ?_
    refine in_eq ?_
    refine then_next ?_
    refine vc_seq ?_
    refine vc_region ?_
    refine vl_det (det_move rfl) rfl ?_
    refine vl_det (det_assign rfl) rfl ?_
    refine vl_end [(2, _)] ⟨rfl, trivial⟩ ?_
    refine then_next ?_
    refine vc_ret ?_
    refine ret1 rfl rfl ?_
    have hkl : k = l.length := by omega
    subst hkl
    have hd := hR.done
    subst hd
    subst hn
    exact ⟨A, c, rfl, rfl⟩
end Go.Proofs.Ytpamjobiohbibaa
namespace Go.Proofs.Ytpamjobiohbibaa
set_option linter.unusedVariables false
/-- a word of a text -/
theorem small_small : ∀ c : UInt8, small (small c) = small c := by
  have : ∀ x : Fin 256, small (small (UInt8.ofNat x.val)) = small (UInt8.ofNat x.val) := by decide +kernel
  intro c
  have := this ⟨c.toNat, c.toNat_lt⟩
  simpa using this
def RowOk (t : List UInt8) : Prop := ∀ c ∈ t, small c ≠ 0 ∧ small c = c
def WordOk (t : List UInt8) : Prop := 1 ≤ t.length ∧ t.length ≤ 24 ∧ RowOk t
theorem emit_ok {row : List UInt8} (h : RowOk row) : ∀ t ∈ emit row, WordOk t := by
  intro t ht
  unfold emit at ht
  split at ht
  · cases ht
  · rename_i hne
    simp at ht; subst ht
    have := List.length_pos_iff.2 hne
    exact ⟨by simp; omega, by simp; omega, fun c hc => h c (List.mem_of_mem_take hc)⟩
theorem wst_ok : ∀ (l : List UInt8) (ws : List (List UInt8)) (row : List UInt8), (∀ t ∈ ws, WordOk t) → RowOk row → (∀ t ∈ (l.foldl wstep (ws, row)).1, WordOk t) ∧ RowOk (l.foldl wstep (ws, row)).2
  | [], ws, row, h1, h2 => ⟨h1, h2⟩
  | c :: r, ws, row, h1, h2 => by
    rw [List.foldl_cons]
    by_cases hc : small c = 0
    case neg =>
      rw [wstep_yes hc]
      refine wst_ok r ws _ h1 fun x hx => ?_
      rcases List.mem_append.1 hx with hx | hx
      · exact h2 x hx
      · simp only [List.mem_singleton] at hx
        subst hx
        rw [small_small]; exact ⟨hc, rfl⟩
    case pos =>
      rw [wstep_no hc]
      refine wst_ok r _ [] (fun t ht => ?_) (fun x hx => by cases hx)
      rcases List.mem_append.1 ht with ht | ht
      · exact h1 t ht
      · exact emit_ok h2 t ht
theorem word_ok {l t : List UInt8} (h : t ∈ wordsL l) : WordOk t := by
  have := wst_ok l [] [] (by simp) (fun x hx => by cases hx)
  rcases List.mem_append.1 h with h | h
  · exact this.1 t h
  · exact emit_ok this.2 t h
theorem map_id_of {t : List UInt8} (h : RowOk t) : t.map small = t := by
  induction t with
  | nil => rfl
  | cons c r ih => rw [List.map_cons, (h c (by simp)).2, ih fun x hx => h x (by simp [hx])]
theorem one_ok {t : List UInt8} (h : WordOk t) : oneL t = (t, true) := by
  rw [oneL_yes ⟨h.1, h.2.1⟩ fun c hc => (h.2.2 c hc).1, map_id_of h.2.2]
theorem fold_row : ∀ (t : List UInt8) (row : List UInt8), RowOk t → t.foldl wstep ([], row) = ([], row ++ t)
  | [], row, _ => by simp
  | c :: r, row, h => by
    have hc := h c (by simp)
    rw [List.foldl_cons, wstep_yes hc.1, hc.2, fold_row r _ fun x hx => h x (by simp [hx]), List.append_assoc]
    rfl
theorem words_ok {t : List UInt8} (h : WordOk t) : wordsL t = [t] := by
  have := fold_row t [] h.2.2
  unfold wordsL wst
  rw [this]
  have hne : t ≠ [] := List.length_pos_iff.1 h.1
  simp [emit, hne, List.take_of_length_le h.2.1]
theorem term_ok {t : List UInt8} (h : WordOk t) : termL t = true := by
  have hb : bare t = t := by
    unfold bare
    rw [if_neg]
    intro e
    rcases t with _ | ⟨c, r⟩
    · cases e
    · simp at e; subst e
      exact absurd (h.2.2 64 (by simp)).1 (by decide)
  unfold termL
  rw [hb, one_ok h]; simp
theorem term_at {t : List UInt8} (h : WordOk t) : termL (64 :: t) = true := by
  have hb : bare (64 :: t) = t := rfl
  unfold termL
  rw [hb, one_ok h]; simp
end Go.Proofs.Ytpamjobiohbibaa
namespace Go.Proofs.Ytpamjobiohbibaa
open Go.RowKit
set_option linter.unusedVariables false
set_option maxRecDepth 20000
variable {B : Nat} {w0 : World} {F : List Ch} {A A1 A2 : Option Addr} {n c c1 c2 g : Nat}
theorem rputT_d {l : List Txt} (hS : StT l) (hl : l.length ≤ 1000000000000) (t : Txt) :
    Does Try.prog B w0 32 [.slice A l.length c, .string ⟨t.toArray⟩] (.own 9 1 A l.length c (strs l) :: F) (fun r L => ∃ A' c', r = .slice A' (putL l t).length c' ∧ L = .own 9 1 A' (putL l t).length c' (strs (putL l t)) :: F) := by
  refine fn_walk Try.func32 48 rfl rfl rfl [(0, .slice A l.length c), (1, .string ⟨t.toArray⟩)] ⟨⟨rfl, rfl⟩, ⟨rfl, rfl⟩, trivial⟩ ?_
  refine vc_seq ?_
  refine vc_region ?_
  refine vl_det (det_assign rfl) rfl ?_
  refine vl_end [(0, _), (1, _)] ⟨rfl, rfl, trivial⟩ ?_
  refine then_next ?_
  refine vc_seq ?_
  refine vc_region ?_
  refine vl_det (det_assign rfl) rfl ?_
  refine vl_end [(0, _), (1, _), (5, _)] ⟨rfl, rfl, rfl, trivial⟩ ?_
  refine then_next ?_
  refine vc_seq ?_
  refine vc_block ?_
  refine vc_loopJ (fun zf zL zm => ∃ (k : Nat), (k ≤ l.length ∧ (∀ i, i < k → ltT (l.getD i []) t)) ∧ l.length - k = zm ∧ Sub zf [(0, .slice A l.length c), (1, .string ⟨t.toArray⟩), (5, .int .i64 k)] ∧ Wk zL (.own 9 1 A l.length c (strs l) :: F)) _ ⟨0, ⟨Nat.zero_le _, fun i h => absurd h (by omega)⟩, rfl, ⟨(by first | rfl | exact int_to (by omega) | exact sl_to (by omega)), (by first | rfl | exact int_to (by omega) | exact sl_to (by omega)), (by first | rfl | exact int_to (by omega) | exact sl_to (by omega)), trivial⟩, .refl _⟩ ?_
  rintro _ _ _ ⟨k, ⟨hk, hlo⟩, rfl, hs, hp⟩
  refine vc_weaken _ hs (vc_wk hp ?_)
  clear hs hp
  refine vc_seq ?_
  refine vc_seq ?_
  refine vc_region ?_
  refine vl_cut 12 18 [(0, _), (1, _), (5, _)] ((k : Int) < l.length ∧ Op.bytesLess (l.getD k []) t = true) ⟨rfl, rfl, rfl, trivial⟩ ?_ ?_
  · skip
    refine vl_det (det_move rfl) rfl ?_
    refine vl_det (det_move rfl) rfl ?_
    refine vl_det (det_len_sl Try.underlying26 rfl) rfl ?_
    refine vl_det (det_lss rfl rfl) rfl ?_
    refine vl_det (det_move rfl) rfl ?_
    refine vl_guardp rfl rfl rfl (fun h11 => ?_) (fun h11 => ?_)
    · skip
      refine vl_det (det_move rfl) rfl ?_
      refine vl_guard_t rfl rfl ?_
      refine vl_det (det_move rfl) rfl ?_
      refine vl_guard_t rfl rfl ?_
      refine vl_det (det_indexAddr (size := 1) Try.underlying26 (by kernel_rfl) rfl rfl rfl (by omega) (by first | (exact Bor.own (by repeat (first | exact List.Mem.head _ | apply List.Mem.tail))) | (repeat (first | assumption | apply Bor.cons)))) rfl ?_
      refine vl_guard_t rfl rfl ?_
      refine vl_det (det_load_str (b := l) (j := k) (by kernel_rfl) rfl (by first | (exact Bor.own (by repeat (first | exact List.Mem.head _ | apply List.Mem.tail))) | (repeat (first | assumption | apply Bor.cons))) (by omega)) rfl ?_
      refine vl_guard_t rfl rfl ?_
      refine vl_det (det_move rfl) rfl ?_
      refine vl_guard_t rfl rfl ?_
      refine vl_det (det_s_lssD rfl rfl) rfl ?_
      refine vl_det (det_pick_t rfl rfl) rfl ?_
      exact vl_cut_end ⟨rfl, rfl, rfl, trivial⟩ (by first | rfl | exact bool_to_t (by first | omega | simp_all) | exact bool_to_f (by first | omega | simp_all) | exact bool_to (by first | omega | simp_all) | exact bool_to_b (by first | omega | simp_all))
    · skip
      refine vl_guard_f rfl rfl rfl rfl ?_
      refine vl_guard_f rfl rfl rfl rfl ?_
      refine vl_guard_f rfl rfl rfl rfl ?_
      refine vl_guard_f rfl rfl rfl rfl ?_
      refine vl_guard_f rfl rfl rfl rfl ?_
      refine vl_det (det_pick_f rfl rfl) rfl ?_
      exact vl_cut_end ⟨rfl, rfl, rfl, trivial⟩ (by first | rfl | exact bool_to_t (by first | omega | simp_all) | exact bool_to_f (by first | omega | simp_all) | exact bool_to (by first | omega | simp_all) | exact bool_to_b (by first | omega | simp_all))
  · skip
    refine vl_end [(0, _), (1, _), (5, _), (18, _)] ⟨rfl, rfl, rfl, rfl, trivial⟩ ?_
    refine then_next ?_
    refine vc_decideU rfl (fun h18 => ?_) (fun h18 => ?_)
    · skip
      refine vc_skip ?_
      refine then_next ?_
      refine vc_block ?_
      refine vc_region ?_
      refine vl_det (det_move rfl) rfl ?_
      refine vl_det (det_add rfl rfl (w_i64 (by omega) (by omega))) rfl ?_
      refine vl_det (det_assign rfl) rfl ?_
      refine vl_end [(0, _), (1, _), (5, _)] ⟨rfl, rfl, rfl, trivial⟩ ?_
      refine in_normal ?_
      refine in_loop_ ⟨_, by omega, k + 1, ⟨by omega, fun i hi => by
  rcases Nat.lt_or_ge i k with h | h
  · exact hlo i h
  · rw [show i = k by omega]; exact h18.2⟩, rfl, ⟨(by first | rfl | exact int_to (by omega) | exact sl_to (by omega)), (by first | rfl | exact int_to (by omega) | exact sl_to (by omega)), (by first | rfl | exact int_to (by omega) | exact sl_to (by omega)), trivial⟩, .refl _⟩
    · skip
      have hput := hS.put hk hlo (fun h h2 => h18 ⟨by omega, h2⟩)
      refine vc_exit ?_
      refine then_exit ?_
      refine loop_exit ?_
      refine in_eq ?_
      refine then_next ?_
      refine vc_seq ?_
      refine vc_seq ?_
      refine vc_region ?_
      refine vl_cut 12 32 [(0, _), (1, _), (5, _)] (k < l.length ∧ l.getD k [] = t) ⟨rfl, rfl, rfl, trivial⟩ ?_ ?_
      · skip
        refine vl_det (det_move rfl) rfl ?_
        refine vl_det (det_move rfl) rfl ?_
        refine vl_det (det_len_sl Try.underlying26 rfl) rfl ?_
        refine vl_det (det_lss rfl rfl) rfl ?_
        refine vl_det (det_move rfl) rfl ?_
        refine vl_guardp rfl rfl rfl (fun h25 => ?_) (fun h25 => ?_)
        · skip
          refine vl_det (det_move rfl) rfl ?_
          refine vl_guard_t rfl rfl ?_
          refine vl_det (det_move rfl) rfl ?_
          refine vl_guard_t rfl rfl ?_
          refine vl_det (det_indexAddr (size := 1) Try.underlying26 (by kernel_rfl) rfl rfl rfl (by omega) (by first | (exact Bor.own (by repeat (first | exact List.Mem.head _ | apply List.Mem.tail))) | (repeat (first | assumption | apply Bor.cons)))) rfl ?_
          refine vl_guard_t rfl rfl ?_
          refine vl_det (det_load_str (b := l) (j := k) (by kernel_rfl) rfl (by first | (exact Bor.own (by repeat (first | exact List.Mem.head _ | apply List.Mem.tail))) | (repeat (first | assumption | apply Bor.cons))) (by omega)) rfl ?_
          refine vl_guard_t rfl rfl ?_
          refine vl_det (det_move rfl) rfl ?_
          refine vl_guard_t rfl rfl ?_
          refine vl_det (det_s_eql rfl rfl) rfl ?_
          refine vl_det (det_pick_t rfl rfl) rfl ?_
          exact vl_cut_end ⟨rfl, rfl, rfl, trivial⟩ (by first | rfl | exact bool_to_t (by first | omega | exact ⟨fun h => ⟨by omega, h⟩, fun h => h.2⟩) | exact bool_to_f (by first | omega | exact ⟨fun h => ⟨by omega, h⟩, fun h => h.2⟩) | exact bool_to (by first | omega | exact ⟨fun h => ⟨by omega, h⟩, fun h => h.2⟩) | exact bool_to_b (by first | omega | exact ⟨fun h => ⟨by omega, h⟩, fun h => h.2⟩))
        · skip
          refine vl_guard_f rfl rfl rfl rfl ?_
          refine vl_guard_f rfl rfl rfl rfl ?_
          refine vl_guard_f rfl rfl rfl rfl ?_
          refine vl_guard_f rfl rfl rfl rfl ?_
          refine vl_guard_f rfl rfl rfl rfl ?_
          refine vl_det (det_pick_f rfl rfl) rfl ?_
          exact vl_cut_end ⟨rfl, rfl, rfl, trivial⟩ (by first | rfl | exact bool_to_t (by first | omega | exact ⟨fun h => ⟨by omega, h⟩, fun h => h.2⟩) | exact bool_to_f (by first | omega | exact ⟨fun h => ⟨by omega, h⟩, fun h => h.2⟩) | exact bool_to (by first | omega | exact ⟨fun h => ⟨by omega, h⟩, fun h => h.2⟩) | exact bool_to_b (by first | omega | exact ⟨fun h => ⟨by omega, h⟩, fun h => h.2⟩))
      · skip
        refine vl_end [(0, _), (1, _), (5, _), (32, _)] ⟨rfl, rfl, rfl, rfl, trivial⟩ ?_
        refine then_next ?_
        refine vc_decideU rfl (fun h32 => ?_) (fun h32 => ?_)
        · skip
          rw [if_pos h32] at hput
          refine vc_seq ?_
          refine vc_region ?_
          refine vl_det (det_move rfl) rfl ?_
          refine vl_det (det_assign rfl) rfl ?_
          refine vl_end [(4, _)] ⟨rfl, trivial⟩ ?_
          refine then_next ?_
          refine vc_ret ?_
          refine then_ret ?_
          refine ret1 rfl rfl ?_
          exact ⟨A, c, by rw [hput], by rw [hput]⟩
        · skip
          rw [if_neg h32] at hput
          refine vc_bor (A := A) (nn := l.length) (c := c) (size := 1) (xs := strs l) (by first | (exact Bor.own (by repeat (first | exact List.Mem.head _ | apply List.Mem.tail))) | (repeat (first | assumption | apply Bor.cons))) fun hcap _ => ?_
          have hb0 : Bor B w0 (.own 9 1 A l.length c (strs l) :: F) 1 (.slice A l.length c) l.length (strs l) := Bor.own (List.Mem.head _)
          have hcut := hb0.cut hk
          have hhd := hb0.head_ hk
          rw [show (strs l).take (k * 1) = strs (l.take k) by rw [Nat.mul_one]; simp [strs]] at hhd
          rw [show (strs l).drop (k * 1) = strs (l.drop k) by rw [Nat.mul_one]; simp [strs]] at hcut
          obtain ⟨A9, hA9⟩ : ∃ A9, A9 = (if c = k then A else A.map (·.add (k * 1))) := ⟨_, rfl⟩
          obtain ⟨c9, hc9⟩ : ∃ c9, c9 = c - k := ⟨_, rfl⟩
          rw [← hA9, ← hc9] at hcut
          refine vc_skip ?_
          refine then_next ?_
          refine vc_seq ?_
          refine vc_nil_row 9 1 none ?_
          refine vc_region ?_
          refine vl_det (det_assign rfl) rfl ?_
          refine vl_end [(0, _), (1, _), (5, _), (6, _)] ⟨rfl, rfl, rfl, rfl, trivial⟩ ?_
          refine then_next ?_
          refine vc_seq ?_
          refine vc_region ?_
          refine vl_det (det_move rfl) rfl ?_
          refine vl_det (det_move rfl) rfl ?_
          refine vl_det (det_move rfl) rfl ?_
          refine vl_det (det_slice_hi (i := k) (size := 1) Try.underlying26 (by kernel_rfl) rfl rfl rfl (by omega)) rfl ?_
          refine vl_eff (eff_app slT26 rfl (by repeat (first | exact .hd | apply Sel.tl)) rfl (by first | (exact Bor.own (by repeat (first | exact List.Mem.head _ | apply List.Mem.tail))) | (repeat (first | assumption | apply Bor.cons))) (by first | exact bv_one _ | exact strs_one _ | exact ints_one _ _ | (simp; done) | (simp [Value.oneCell']; done) | assumption) (by omega) (by omega)) rfl ?_
          rintro _ _ ⟨A38, c38, rfl, rfl⟩
          refine vl_det (det_assign rfl) rfl ?_
          refine vl_end [(0, _), (1, _), (5, _), (6, _)] ⟨rfl, rfl, rfl, rfl, trivial⟩ ?_
          refine then_next ?_
          refine vc_seq ?_
          refine vc_region ?_
          refine vl_det (det_move rfl) rfl ?_
          refine vl_det (det_move rfl) rfl ?_
          refine vl_push slT26 rfl rfl rfl rfl rfl (fun _ => rfl) (by repeat (first | exact .hd | apply Sel.tl)) (by omega) (by omega) ?_
          intro _ A42 c42
          refine vl_det (det_assign rfl) rfl ?_
          refine vl_end [(0, _), (5, _), (6, _)] ⟨rfl, rfl, rfl, trivial⟩ ?_
          refine then_next ?_
          refine vc_seq ?_
          refine vc_region ?_
          refine vl_det (det_move rfl) rfl ?_
          refine vl_det (det_move rfl) rfl ?_
          refine vl_det (det_move rfl) rfl ?_
          refine vl_det (det_slice_lo (i := k) (size := 1) Try.underlying26 (by kernel_rfl) rfl rfl rfl hk) rfl ?_
          rw [← hA9, ← hc9]
          refine vl_eff (eff_app slT26 rfl (by repeat (first | exact .hd | apply Sel.tl)) rfl (by first | (exact Bor.own (by repeat (first | exact List.Mem.head _ | apply List.Mem.tail))) | (repeat (first | assumption | apply Bor.cons))) (by first | exact bv_one _ | exact strs_one _ | exact ints_one _ _ | (simp; done) | (simp [Value.oneCell']; done) | assumption) (by omega) (by omega)) rfl ?_
          rintro _ _ ⟨A47, c47, rfl, rfl⟩
          refine vl_det (det_assign rfl) rfl ?_
          refine vl_end [(4, _)] ⟨rfl, trivial⟩ ?_
          refine then_next ?_
          refine vc_ret ?_
          have hel : 0 + k + 1 + (l.length - k) = (putL l t).length := by rw [hput]; simp; omega
          rw [hel]
          refine ret_wk (L' := .own 9 1 A47 (putL l t).length c47 (strs (putL l t)) :: F) (wk_own rfl (by rw [hput]; simp [strs]) (.skip (.refl _))) ?_
          refine ret1 rfl rfl ?_
          exact ⟨A47, c47, rfl, rfl⟩
theorem putL_set (o : List Txt) (x : Txt) : putL (setT o) x = setT (o ++ [x]) := setT_uniq (setT_st _) fun y => by simp [setT_mem]
theorem word_le24 {l : List UInt8} (k : Nat) : ((wordsL l).getD k []).length ≤ 24 := by
  by_cases h : k < (wordsL l).length
  · exact (word_ok (getD_mem h [])).2.1
  · simp [List.getD, List.getElem?_eq_none (Nat.le_of_not_lt h)]
theorem rterms_d {a b : Value} (txt src : List UInt8) (h1 : txt.length ≤ 100000000000) (h2 : src.length ≤ 100000000000) :
    Does Try.prog B w0 31 [.agg #[a, b, .string ⟨src.toArray⟩, .string ⟨txt.toArray⟩]] F (fun r L => ∃ A c, r = .slice A (termsL txt src).length c ∧ L = .own 9 1 A (termsL txt src).length c (strs (termsL txt src)) :: F) := by
  have hw1 := wordsL_len txt
  have hw2 := wordsL_len src
  have hs0 : setT [] = [] := setT_uniq StT.nil (by simp)
  refine fn_walk Try.func31 39 rfl rfl rfl [(0, .agg #[a, b, .string ⟨src.toArray⟩, .string ⟨txt.toArray⟩])] ⟨⟨rfl, rfl⟩, trivial⟩ ?_
  refine vc_seq ?_
  refine vc_region ?_
  refine vl_eff (eff_box rfl rfl) rfl ?_
  rintro _ _ ⟨g1, rfl, rfl⟩
  refine vl_det (det_assign rfl) rfl ?_
  refine vl_end [(1, _)] ⟨rfl, trivial⟩ ?_
  refine then_next ?_
  refine vc_seq ?_
  refine vc_region ?_
  refine vl_det (det_assign rfl) rfl ?_
  refine vl_end [(1, _), (3, _)] ⟨rfl, rfl, trivial⟩ ?_
  refine then_next ?_
  refine vc_seq ?_
  refine vc_region ?_
  refine vl_det (det_fieldAddr_ Try.underlying35 rfl (by kernel_rfl) rfl rfl) rfl ?_
  refine vl_det (det_load_blk (by kernel_rfl) rfl (by repeat (first | exact .hd | apply Sel.tl)) rfl) rfl ?_
  refine vl_call co56 rfl (rwords_d txt (by omega)) rfl ?_
  rintro _ _ ⟨A9, c9, rfl, hLL⟩
  obtain rfl := hLL.symm
  refine vl_det (det_assign rfl) rfl ?_
  refine vl_end [(1, _), (3, _), (4, _)] ⟨rfl, rfl, rfl, trivial⟩ ?_
  refine then_next ?_
  refine vc_seq ?_
  refine vc_seq ?_
  refine vc_nil_row 9 1 none ?_
  refine vc_region ?_
  refine vl_det (det_assign rfl) rfl ?_
  refine vl_end [(1, _), (3, _), (4, _), (5, _)] ⟨rfl, rfl, rfl, rfl, trivial⟩ ?_
  refine then_next ?_
  refine vc_block ?_
  refine vc_loopJ (fun zf zL zm => ∃ (k : Nat) (o : List Txt) (A3 : Option Addr) (c3 : Nat), (k ≤ (wordsL txt).length ∧ o = setT ((wordsL txt).take k)) ∧ (wordsL txt).length - k = zm ∧ Sub zf [(1, .pointer (some ⟨g1, 0, none⟩)), (3, .slice A3 o.length c3), (4, .slice A9 (wordsL txt).length c9), (5, .int .i64 k)] ∧ Wk zL (.own 9 1 A3 o.length c3 (strs o) :: .own 9 1 A9 (wordsL txt).length c9 (strs (wordsL txt)) :: .blk g1 35 [a, b, .string ⟨src.toArray⟩, .string ⟨txt.toArray⟩] :: F)) _ ⟨0, [], none, 0, ⟨Nat.zero_le _, by rw [List.take_zero, hs0]⟩, rfl, ⟨(by first | rfl | exact int_to (by omega) | exact sl_to (by omega)), (by first | rfl | exact int_to (by omega) | exact sl_to (by omega)), (by first | rfl | exact int_to (by omega) | exact sl_to (by omega)), (by first | rfl | exact int_to (by omega) | exact sl_to (by omega)), trivial⟩, .refl _⟩ ?_
  rintro _ _ _ ⟨k, o, A3, c3, ⟨hk, ho⟩, rfl, hs, hp⟩
  refine vc_weaken _ hs (vc_wk hp ?_)
  clear hs hp
  refine vc_seq ?_
  refine vc_seq ?_
  refine vc_region ?_
  refine vl_det (det_move rfl) rfl ?_
  refine vl_det (det_move rfl) rfl ?_
  refine vl_det (det_len_sl Try.underlying26 rfl) rfl ?_
  refine vl_det (det_lss rfl rfl) rfl ?_
  refine vl_end [(1, _), (3, _), (4, _), (5, _), (13, _)] ⟨rfl, rfl, rfl, rfl, rfl, trivial⟩ ?_
  refine then_next ?_
  refine vc_decideU rfl (fun h13 => ?_) (fun h13 => ?_)
  · skip
    have hsl := setT_len ((wordsL txt).take k)
    rw [List.length_take, ← ho] at hsl
    have htk : (wordsL txt).take (k + 1) = (wordsL txt).take k ++ [(wordsL txt).getD k []] := by rw [List.take_add_one, List.getElem?_eq_getElem (show k < (wordsL txt).length by omega)]; simp [List.getD, List.getElem?_eq_getElem (show k < (wordsL txt).length by omega)]
    have hoS : StT o := ho ▸ setT_st _
    refine vc_skip ?_
    refine then_next ?_
    refine vc_seq ?_
    refine vc_block ?_
    refine vc_region ?_
    refine vl_det (det_move rfl) rfl ?_
    refine vl_det (det_move rfl) rfl ?_
    refine vl_det (det_move rfl) rfl ?_
    refine vl_det (det_indexAddr (size := 1) Try.underlying26 (by kernel_rfl) rfl rfl rfl (by omega) (by first | (exact Bor.own (by repeat (first | exact List.Mem.head _ | apply List.Mem.tail))) | (repeat (first | assumption | apply Bor.cons)))) rfl ?_
    refine vl_det (det_load_str (b := wordsL txt) (j := k) (by kernel_rfl) rfl (by first | (exact Bor.own (by repeat (first | exact List.Mem.head _ | apply List.Mem.tail))) | (repeat (first | assumption | apply Bor.cons))) (by omega)) rfl ?_
    refine vl_call co32 rfl (rputT_d hoS (by omega) ((wordsL txt).getD k [])) rfl ?_
    rintro _ _ ⟨A21, c21, rfl, hLL⟩
    obtain rfl := hLL.symm
    refine vl_det (det_assign rfl) rfl ?_
    refine vl_end [(1, _), (3, _), (4, _), (5, _)] ⟨rfl, rfl, rfl, rfl, trivial⟩ ?_
    refine in_normal ?_
    refine then_next ?_
    refine vc_region ?_
    refine vl_det (det_move rfl) rfl ?_
    refine vl_det (det_add rfl rfl (w_i64 (by omega) (by omega))) rfl ?_
    refine vl_det (det_assign rfl) rfl ?_
    refine vl_end [(1, _), (3, _), (4, _), (5, _)] ⟨rfl, rfl, rfl, rfl, trivial⟩ ?_
    refine in_loop_ ⟨_, by omega, k + 1, putL o ((wordsL txt).getD k []), A21, c21, ⟨by omega, by rw [ho, putL_set, ← htk]⟩, rfl, ⟨(by first | rfl | exact int_to (by omega) | exact sl_to (by omega)), (by first | rfl | exact int_to (by omega) | exact sl_to (by omega)), (by first | rfl | exact int_to (by omega) | exact sl_to (by omega)), (by first | rfl | exact int_to (by omega) | exact sl_to (by omega)), trivial⟩, .cons (.refl _)⟩
  · skip
    obtain rfl : k = (wordsL txt).length := by omega
    rw [List.take_length] at ho
    refine vc_exit ?_
    refine then_exit ?_
    refine loop_exit ?_
    refine in_eq ?_
    refine then_next ?_
    refine vc_seq ?_
    refine vc_region ?_
    refine vl_det (det_fieldAddr_ Try.underlying35 rfl (by kernel_rfl) rfl rfl) rfl ?_
    refine vl_det (det_load_blk (by kernel_rfl) rfl (by repeat (first | exact .hd | apply Sel.tl)) rfl) rfl ?_
    refine vl_call co56 rfl (rwords_d src (by omega)) rfl ?_
    rintro _ _ ⟨A24, c24, rfl, hLL⟩
    obtain rfl := hLL.symm
    refine vl_det (det_assign rfl) rfl ?_
    refine vl_end [(3, _), (4, _)] ⟨rfl, rfl, trivial⟩ ?_
    refine then_next ?_
    refine vc_seq ?_
    refine vc_seq ?_
    refine vc_region ?_
    refine vl_det (det_assign rfl) rfl ?_
    refine vl_end [(3, _), (4, _), (6, _)] ⟨rfl, rfl, rfl, trivial⟩ ?_
    refine then_next ?_
    refine vc_block ?_
    refine vc_loopJ (fun zf zL zm => ∃ (k : Nat) (o2 : List Txt) (A5 : Option Addr) (c5 : Nat), (k ≤ (wordsL src).length ∧ o2 = setT (wordsL txt ++ ((wordsL src).take k).map (64 :: ·))) ∧ (wordsL src).length - k = zm ∧ Sub zf [(3, .slice A5 o2.length c5), (4, .slice A24 (wordsL src).length c24), (6, .int .i64 k)] ∧ Wk zL (.own 9 1 A5 o2.length c5 (strs o2) :: .own 9 1 A24 (wordsL src).length c24 (strs (wordsL src)) :: F)) _ ⟨0, o, A3, c3, ⟨Nat.zero_le _, by rw [ho]; simp⟩, rfl, ⟨(by first | rfl | exact int_to (by omega) | exact sl_to (by omega)), (by first | rfl | exact int_to (by omega) | exact sl_to (by omega)), (by first | rfl | exact int_to (by omega) | exact sl_to (by omega)), trivial⟩, .swap (.cons (.cons (.skip (.skip (.refl _)))))⟩ ?_
    rintro _ _ _ ⟨k, o2, A5, c5, ⟨hk2, ho2⟩, rfl, hs, hp⟩
    refine vc_weaken _ hs (vc_wk hp ?_)
    clear hs hp
    refine vc_seq ?_
    refine vc_seq ?_
    refine vc_region ?_
    refine vl_det (det_move rfl) rfl ?_
    refine vl_det (det_move rfl) rfl ?_
    refine vl_det (det_len_sl Try.underlying26 rfl) rfl ?_
    refine vl_det (det_lss rfl rfl) rfl ?_
    refine vl_end [(3, _), (4, _), (6, _), (28, _)] ⟨rfl, rfl, rfl, rfl, trivial⟩ ?_
    refine then_next ?_
    refine vc_decideU rfl (fun h28 => ?_) (fun h28 => ?_)
    · skip
      have hsl := setT_len (wordsL txt ++ ((wordsL src).take k).map (64 :: ·))
      rw [List.length_append, List.length_map, List.length_take, ← ho2] at hsl
      have htk : wordsL txt ++ ((wordsL src).take (k + 1)).map (64 :: ·) = wordsL txt ++ ((wordsL src).take k).map (64 :: ·) ++ [64 :: (wordsL src).getD k []] := by
        have hlt : k < (wordsL src).length := by omega
        have hgd : (wordsL src).getD k [] = (wordsL src)[k] := by simp [List.getD, List.getElem?_eq_getElem hlt]
        rw [List.take_add_one, List.getElem?_eq_getElem hlt, hgd, Option.toList_some, List.map_append, List.map_singleton, List.append_assoc]
      have hoS : StT o2 := ho2 ▸ setT_st _
      refine vc_skip ?_
      refine then_next ?_
      refine vc_seq ?_
      refine vc_block ?_
      refine vc_region ?_
      refine vl_det (det_move rfl) rfl ?_
      refine vl_det (det_move rfl) rfl ?_
      refine vl_det (det_move rfl) rfl ?_
      refine vl_det (det_indexAddr (size := 1) Try.underlying26 (by kernel_rfl) rfl rfl rfl (by omega) (by first | (exact Bor.own (by repeat (first | exact List.Mem.head _ | apply List.Mem.tail))) | (repeat (first | assumption | apply Bor.cons)))) rfl ?_
      refine vl_det (det_load_str (b := wordsL src) (j := k) (by kernel_rfl) rfl (by first | (exact Bor.own (by repeat (first | exact List.Mem.head _ | apply List.Mem.tail))) | (repeat (first | assumption | apply Bor.cons))) (by omega)) rfl ?_
      refine vl_det (det_s_add (s := [64]) (r := (wordsL src).getD k []) rfl rfl (by have := word_le24 (l := src) k; simp only [List.length_cons, List.length_nil]; omega)) rfl ?_
      refine vl_call co32 rfl (rputT_d hoS (by omega) (64 :: (wordsL src).getD k [])) rfl ?_
      rintro _ _ ⟨A37, c37, rfl, hLL⟩
      obtain rfl := hLL.symm
      refine vl_det (det_assign rfl) rfl ?_
      refine vl_end [(3, _), (4, _), (6, _)] ⟨rfl, rfl, rfl, trivial⟩ ?_
      refine in_normal ?_
      refine then_next ?_
      refine vc_region ?_
      refine vl_det (det_move rfl) rfl ?_
      refine vl_det (det_add rfl rfl (w_i64 (by omega) (by omega))) rfl ?_
      refine vl_det (det_assign rfl) rfl ?_
      refine vl_end [(3, _), (4, _), (6, _)] ⟨rfl, rfl, rfl, trivial⟩ ?_
      refine in_loop_ ⟨_, by omega, k + 1, putL o2 (64 :: (wordsL src).getD k []), A37, c37, ⟨by omega, by rw [ho2, putL_set, ← htk]⟩, rfl, ⟨(by first | rfl | exact int_to (by omega) | exact sl_to (by omega)), (by first | rfl | exact int_to (by omega) | exact sl_to (by omega)), (by first | rfl | exact int_to (by omega) | exact sl_to (by omega)), trivial⟩, .cons (.refl _)⟩
    · skip
      obtain rfl : k = (wordsL src).length := by omega
      rw [List.take_length] at ho2
      obtain rfl : o2 = termsL txt src := ho2
      refine vc_exit ?_
      refine then_exit ?_
      refine loop_exit ?_
      refine in_eq ?_
      refine then_next ?_
      refine vc_seq ?_
      refine vc_region ?_
      refine vl_det (det_move rfl) rfl ?_
      refine vl_det (det_assign rfl) rfl ?_
      refine vl_end [(2, _)] ⟨rfl, trivial⟩ ?_
      refine then_next ?_
      refine vc_ret ?_
      refine ret_wk (L' := .own 9 1 A5 (termsL txt src).length c5 (strs (termsL txt src)) :: F) (.cons (.skip (.refl _))) ?_
      refine ret1 rfl rfl ?_
      exact ⟨A5, c5, rfl, rfl⟩
end Go.Proofs.Ytpamjobiohbibaa
namespace Go.Proofs.Ytpamjobiohbibaa
open Go.RowKit Go.ChangeShapes Go.WideShapes Go.ChangeAt

/-- whatever reads at type t is 'F x' for some x that is fine -/
def DecT (P : Program) (w : World) (t : TypeId) {α : Type} (F : α → List Value) (Ok : α → Prop) : Prop :=
  ∀ (H : Type) (enc : TypeId × Value → H) (n : Nat) (cs : List Value) (y : DataW H × List MemPlace),
    DataW.trod enc P w 0 (fun _ => true) true n t cs = some y → ∃ x, cs = F x ∧ Ok x

section
variable {P : Program} {w : World} {t : TypeId}
theorem dec_u8 (ht : P.underlying t = some (.int .u8)) : DecT P w t (fun b : UInt8 => [.int .u8 (b.toNat : Int)]) (fun _ => True) := by
  intro H enc n cs y h
  obtain ⟨m, rfl, _, hw⟩ := DataW.trod_int ht h
  have hb := bounds_u8 hw
  refine ⟨UInt8.ofNat m.toNat, ?_, trivial⟩
  have e : (UInt8.ofNat m.toNat).toNat = m.toNat := by simp; omega
  dsimp only; rw [e, Int.toNat_of_nonneg hb.1]
theorem dec_u16 (ht : P.underlying t = some (.int .u16)) : DecT P w t (fun x : Nat => [.int .u16 (x : Int)]) (fun x => x < 65536) := by
  intro H enc n cs y h
  obtain ⟨m, rfl, _, hw⟩ := DataW.trod_int ht h
  have hb := bounds_u16 hw
  exact ⟨m.toNat, by dsimp only; rw [Int.toNat_of_nonneg hb.1], by omega⟩
theorem dec_u64 (ht : P.underlying t = some (.int .u64)) : DecT P w t (fun x : Nat => [.int .u64 (x : Int)]) (fun x => x < 18446744073709551616) := by
  intro H enc n cs y h
  obtain ⟨m, rfl, _, hw⟩ := DataW.trod_int ht h
  have hb := bounds_u64 hw
  exact ⟨m.toNat, by dsimp only; rw [Int.toNat_of_nonneg hb.1], by omega⟩
theorem dec_int (ht : P.underlying t = some (.int .i64)) : DecT P w t (fun x : Int => [.int .i64 x]) (fun x => -9223372036854775808 ≤ x ∧ x ≤ 9223372036854775807) := by
  intro H enc n cs y h
  obtain ⟨m, rfl, _, hw⟩ := DataW.trod_int ht h
  exact ⟨m, rfl, bounds_i64 hw⟩
theorem dec_bool (ht : P.underlying t = some .bool) : DecT P w t (fun b : Bool => [.bool b]) (fun _ => True) := by
  intro H enc n cs y h
  obtain ⟨b, rfl, _⟩ := DataW.trod_bool ht h
  exact ⟨b, rfl, trivial⟩
theorem dec_string (ht : P.underlying t = some .string) : DecT P w t (fun s : ByteArray => [.string s]) (fun s => s.size ≤ maxLen) := by
  intro H enc n cs y h
  obtain ⟨s, rfl, _, hs⟩ := DataW.trod_string ht h
  exact ⟨s, rfl, hs⟩
theorem flatMap_get {α : Type} {F : α → List Value} {size : Nat} (hF : ∀ x, (F x).length = size) : ∀ (L : List α) (i j : Nat), j < size → (L.flatMap F)[i * size + j]? = (L[i]?).bind fun x => (F x)[j]? := by
  intro L
  induction L with
  | nil => intro i j _; simp
  | cons x L ih =>
    intro i j hj
    rw [List.flatMap_cons]
    rcases i with _ | i
    · rw [List.getElem?_append_left (by rw [hF]; omega)]; simp
    · rw [List.getElem?_append_right (by rw [hF, Nat.succ_mul]; omega), hF, show (i + 1) * size + j - size = i * size + j by rw [Nat.succ_mul]; omega, ih i j hj]
      simp
/-- a slice whose elements are opened by 'he' -/
theorem dec_slice {e : TypeId} {α : Type} {F : α → List Value} {Ok : α → Prop} {size : Nat} (ht : P.underlying t = some (.slice e)) (hc : P.cellsOf e = size) (hs : 0 < size) (hF : ∀ x, (F x).length = size) (he : DecT P w e F Ok) :
    DecT P w t (fun x : Value × List α => [x.1]) (fun x => Rd w w.heap.size size x.1 x.2.length (x.2.flatMap F) ∧ (∀ y ∈ x.2, Ok y) ∧ x.2.length ≤ maxLen) := by
  intro H enc n cs y h
  rcases Deep.open_slice ht h with ⟨rfl, _⟩ | ⟨a, len, cap, m, n', D, Pl, rfl, _, hl, hm, hmm, _, hel⟩
  · exact ⟨(.slice none 0 0, []), rfl, Rd.nil_, by simp, by simp⟩
  · simp only [if_true] at hmm
    have hex : ∀ i, i < len → ∃ x, w.cells? 0 (a.add (i * P.cellsOf e)) (P.cellsOf e) = some (F x) ∧ Ok x := by
      intro i hi
      obtain ⟨cs', h1, h2⟩ := hel i (by omega)
      obtain ⟨x, rfl, ho⟩ := he H enc _ _ _ h2
      exact ⟨x, h1, ho⟩
    have hlist : ∀ k, k ≤ len → ∃ L : List α, L.length = k ∧ ∀ i x, L[i]? = some x → w.cells? 0 (a.add (i * P.cellsOf e)) (P.cellsOf e) = some (F x) ∧ Ok x := by
      intro k
      induction k with
      | zero => intro _; exact ⟨[], rfl, by simp⟩
      | succ k ih =>
        intro hk
        obtain ⟨L, hL, hLi⟩ := ih (by omega)
        obtain ⟨x, hx⟩ := hex k (by omega)
        refine ⟨L ++ [x], by simp [hL], fun i z hz => ?_⟩
        rw [List.getElem?_append] at hz
        split at hz
        · exact hLi i z hz
        · rename_i hlt
          have : i = k := by
            have := (List.getElem?_eq_some_iff.1 hz).1
            simp at this; omega
          subst this
          simp [hL] at hz; subst hz; exact hx
    obtain ⟨L, hL, hLi⟩ := hlist len (Nat.le_refl _)
    refine ⟨(.slice (some a) len cap, L), rfl, ⟨some a, cap, by rw [hL], by rw [hL]; exact hl, ?_, fun hn => ⟨a, rfl, ?_, ?_⟩⟩, ?_, by show L.length ≤ maxLen; omega⟩
    · show (L.flatMap F).length = L.length * size
      clear hL hLi
      induction L with
      | nil => simp
      | cons x L ih => simp [ih, hF, Nat.succ_mul, Nat.add_comm]
    · obtain ⟨x, hx⟩ : ∃ x, L[0]? = some x := by
        rcases L with _ | ⟨x, L⟩
        · simp at hn
        · exact ⟨x, rfl⟩
      have := (hLi 0 x hx).1
      rw [hc] at this
      have := (World.cells?_some this).2.2 0 hs
      simp [Addr.add] at this
      rcases Nat.lt_or_ge a.block w.heap.size with hlt | hge
      · exact hlt
      · rw [World.cell?, Array.getElem?_eq_none hge] at this
        have h0 := hF x
        have : (F x)[0]? = none := by simpa using this.symm
        have := List.getElem?_eq_none_iff.1 this
        omega
    · intro j u hu
      have hj : j = j / size * size + j % size := by have := Nat.div_add_mod j size; rw [Nat.mul_comm] at this; omega
      rw [hj, flatMap_get hF L _ _ (Nat.mod_lt _ hs)] at hu
      obtain ⟨x, hx, hu⟩ := Option.bind_eq_some_iff.1 hu
      have hcx := (hLi _ x hx).1
      rw [hc] at hcx
      have := (World.cells?_some hcx).2.2 (j % size) (Nat.mod_lt _ hs)
      rw [add_of_add, ← hj] at this
      rw [this, hu]
    · intro y hy
      obtain ⟨i, hi⟩ := List.getElem?_of_mem hy
      exact (hLi i y hi).2
theorem flatMap_bv (l : List UInt8) : l.flatMap (fun b : UInt8 => [Value.int .u8 (b.toNat : Int)]) = bv l := by
  induction l with
  | nil => rfl
  | cons x l ih => simp [bv] at ih ⊢; exact ih
end

section
variable {P : Program} {w : World} {t : TypeId}
/-- an argument that is opened -/
theorem DecT.arg {α : Type} {F : α → List Value} {Ok : α → Prop} (hd : DecT P w t F Ok) {H : Type} {enc : TypeId × Value → H} {v : Value} {d : DataW H} {ps : List MemPlace}
    (h : DataW.Trod enc P w 0 (fun _ => true) true t v d ps) : ∃ x, v.cells.toList = F x ∧ Ok x := by
  obtain ⟨n, h⟩ := h
  exact hd H enc n _ _ h
theorem cells_slice {v : Value} {x : Value} (a : Option Addr) (n c : Nat) (hv : v = .slice a n c) (h : v.cells.toList = [x]) : x = v := by
  subst hv; simp [Value.cells] at h; exact h.symm
end

section
variable {P : Program} {w : World} {t : TypeId}
/-- a struct of three fields of one cell each -/
theorem dec_struct3 {α β γ : Type} {f0 f1 f2 : Field} {F0 : α → Value} {F1 : β → Value} {F2 : γ → Value} {O0 : α → Prop} {O1 : β → Prop} {O2 : γ → Prop}
    (ht : P.underlying t = some (.struct #[f0, f1, f2])) (hc : P.cellsOf t = 3) (h0 : f0.offset = 0 ∧ P.cellsOf f0.type = 1) (h1 : f1.offset = 1 ∧ P.cellsOf f1.type = 1) (h2 : f2.offset = 2 ∧ P.cellsOf f2.type = 1)
    (d0 : DecT P w f0.type (fun x => [F0 x]) O0) (d1 : DecT P w f1.type (fun x => [F1 x]) O1) (d2 : DecT P w f2.type (fun x => [F2 x]) O2) :
    DecT P w t (fun x : α × β × γ => [F0 x.1, F1 x.2.1, F2 x.2.2]) (fun x => O0 x.1 ∧ O1 x.2.1 ∧ O2 x.2.2) := by
  intro H enc n cs y h
  obtain ⟨xs, n', _, _, hl, hx, hf⟩ := DataW.trod_struct ht h
  rw [hc] at hl
  obtain ⟨c0, c1, c2, rfl⟩ : ∃ c0 c1 c2, cs = [c0, c1, c2] := by
    match cs, hl with
    | [c0, c1, c2], _ => exact ⟨c0, c1, c2, rfl⟩
  obtain ⟨y0, y1, y2, rfl⟩ : ∃ y0 y1 y2, xs = [y0, y1, y2] := by
    match xs, hx with
    | [y0, y1, y2], _ => exact ⟨y0, y1, y2, rfl⟩
  have g0 := hf 0 f0 rfl
  have g1 := hf 1 f1 rfl
  have g2 := hf 2 f2 rfl
  rw [h0.1, h0.2] at g0
  rw [h1.1, h1.2] at g1
  rw [h2.1, h2.2] at g2
  obtain ⟨a, ea, oa⟩ := d0 H enc _ _ _ g0
  obtain ⟨b, eb, ob⟩ := d1 H enc _ _ _ g1
  obtain ⟨c, ec, oc⟩ := d2 H enc _ _ _ g2
  simp at ea eb ec
  exact ⟨(a, b, c), by simp [ea, eb, ec], oa, ob, oc⟩
/-- a struct of four fields of one cell each -/
theorem dec_struct4 {α β γ δ : Type} {f0 f1 f2 f3 : Field} {F0 : α → Value} {F1 : β → Value} {F2 : γ → Value} {F3 : δ → Value} {O0 : α → Prop} {O1 : β → Prop} {O2 : γ → Prop} {O3 : δ → Prop}
    (ht : P.underlying t = some (.struct #[f0, f1, f2, f3])) (hc : P.cellsOf t = 4) (h0 : f0.offset = 0 ∧ P.cellsOf f0.type = 1) (h1 : f1.offset = 1 ∧ P.cellsOf f1.type = 1) (h2 : f2.offset = 2 ∧ P.cellsOf f2.type = 1) (h3 : f3.offset = 3 ∧ P.cellsOf f3.type = 1)
    (d0 : DecT P w f0.type (fun x => [F0 x]) O0) (d1 : DecT P w f1.type (fun x => [F1 x]) O1) (d2 : DecT P w f2.type (fun x => [F2 x]) O2) (d3 : DecT P w f3.type (fun x => [F3 x]) O3) :
    DecT P w t (fun x : α × β × γ × δ => [F0 x.1, F1 x.2.1, F2 x.2.2.1, F3 x.2.2.2]) (fun x => O0 x.1 ∧ O1 x.2.1 ∧ O2 x.2.2.1 ∧ O3 x.2.2.2) := by
  intro H enc n cs y h
  obtain ⟨xs, n', _, _, hl, hx, hf⟩ := DataW.trod_struct ht h
  rw [hc] at hl
  obtain ⟨c0, c1, c2, c3, rfl⟩ : ∃ c0 c1 c2 c3, cs = [c0, c1, c2, c3] := by
    match cs, hl with
    | [c0, c1, c2, c3], _ => exact ⟨c0, c1, c2, c3, rfl⟩
  obtain ⟨y0, y1, y2, y3, rfl⟩ : ∃ y0 y1 y2 y3, xs = [y0, y1, y2, y3] := by
    match xs, hx with
    | [y0, y1, y2, y3], _ => exact ⟨y0, y1, y2, y3, rfl⟩
  have g0 := hf 0 f0 rfl
  have g1 := hf 1 f1 rfl
  have g2 := hf 2 f2 rfl
  have g3 := hf 3 f3 rfl
  rw [h0.1, h0.2] at g0
  rw [h1.1, h1.2] at g1
  rw [h2.1, h2.2] at g2
  rw [h3.1, h3.2] at g3
  obtain ⟨a, ea, oa⟩ := d0 H enc _ _ _ g0
  obtain ⟨b, eb, ob⟩ := d1 H enc _ _ _ g1
  obtain ⟨c, ec, oc⟩ := d2 H enc _ _ _ g2
  obtain ⟨d, ed, od⟩ := d3 H enc _ _ _ g3
  simp at ea eb ec ed
  exact ⟨(a, b, c, d), by simp [ea, eb, ec, ed], oa, ob, oc, od⟩
end
end Go.Proofs.Ytpamjobiohbibaa
namespace Go.Proofs.Ytpamjobiohbibaa
open Go.RowKit
set_option linter.unusedVariables false
/-- a record: its time, its level, its source, its text -/
abbrev RecC := Nat × UInt8 × List UInt8 × List UInt8
def RecC.cells (x : RecC) : List Value := [.int .u64 x.1, .int .u8 (x.2.1.toNat : Int), .string ⟨x.2.2.1.toArray⟩, .string ⟨x.2.2.2.toArray⟩]
def RecC.ok (x : RecC) : Prop := x.1 < 18446744073709551616 ∧ True ∧ x.2.2.1.length ≤ maxLen ∧ x.2.2.2.length ≤ maxLen
theorem dec_strL {P : Program} {w : World} {t : TypeId} (ht : P.underlying t = some .string) : DecT P w t (fun s : List UInt8 => [.string ⟨s.toArray⟩]) (fun s => s.length ≤ maxLen) := by
  intro H enc n cs y h
  obtain ⟨s, h1, h2⟩ := dec_string ht H enc n cs y h
  refine ⟨s.data.toList, ?_, ?_⟩
  · rw [h1]
  · have e : s.data.toList.length = s.size := by rw [Array.length_toList]; rfl
    show s.data.toList.length ≤ maxLen
    rw [e]; exact h2
theorem dec_rec (w : World) : DecT Try.prog w 35 RecC.cells RecC.ok :=
  dec_struct4 Try.underlying35 (by kernel_rfl) ⟨rfl, by kernel_rfl⟩ ⟨rfl, by kernel_rfl⟩ ⟨rfl, by kernel_rfl⟩ ⟨rfl, by kernel_rfl⟩ (dec_u64 Try.underlying33) (dec_u8 Try.underlying5) (dec_strL Try.underlying9) (dec_strL Try.underlying9)
def recs (L : List RecC) : List Value := L.flatMap RecC.cells
def recAt (L : List RecC) (k : Nat) : RecC := L.getD k (0, 0, [], [])
theorem rec_get {L : List RecC} {k : Nat} (hk : k < L.length) {j : Nat} (hj : j < 4) : (recs L)[k * 4 + j]? = (RecC.cells (recAt L k))[j]? := by
  rw [recs, flatMap_get (size := 4) (fun _ => rfl) L k j hj, recAt, List.getD_eq_getElem?_getD, List.getElem?_eq_getElem hk]
  rfl
theorem recAt_ok {L : List RecC} (h : ∀ x ∈ L, RecC.ok x) {k : Nat} (hk : k < L.length) : RecC.ok (recAt L k) := by
  refine h _ ?_
  rw [recAt, List.getD_eq_getElem?_getD, List.getElem?_eq_getElem hk]
  exact List.getElem_mem hk
end Go.Proofs.Ytpamjobiohbibaa
namespace Go.Proofs.Ytpamjobiohbibaa
open Go.RowKit
set_option linter.unusedVariables false
variable {B : Nat} {w0 : World} {F : List Ch} {A : Option Addr} {c : Nat}
def RecC.w (x : RecC) : Nat := 16 + x.2.2.1.length + x.2.2.2.length
def wsum (L : List RecC) : Nat := (L.map RecC.w).sum
theorem wsum_snoc (L : List RecC) (x : RecC) : wsum (L ++ [x]) = wsum L + x.w := by simp [wsum]
theorem wsum_take {L : List RecC} {k : Nat} (h : k < L.length) : wsum (L.take (k + 1)) = wsum (L.take k) + (recAt L k).w := by
  rw [take_getD h (0, 0, [], []), wsum_snoc]; rfl
theorem wsum_le (L : List RecC) (k : Nat) : wsum (L.take k) ≤ wsum L := by
  have h : wsum L = wsum (L.take k) + wsum (L.drop k) := by
    rw [wsum, wsum, wsum, ← List.sum_append, ← List.map_append, List.take_append_drop]
  omega
theorem rec_one (x : RecC) : ∀ u ∈ x.cells, u.oneCell' = true := by simp [RecC.cells, Value.oneCell']
theorem rec_cells {L : List RecC} {k : Nat} (hk : k < L.length) : ∀ (q : Nat) (u : Value), (RecC.cells (recAt L k))[q]? = some u → (recs L)[k * 4 + q]? = some u := fun q u h => by
  have hq : q < 4 := by
    have := (List.getElem?_eq_some_iff.1 h).1
    simpa [RecC.cells] using this
  rw [rec_get hk hq]; exact h
set_option maxRecDepth 20000 in
theorem rweight_d (L : List RecC) (hb : Bor B w0 F 4 (.slice A L.length c) L.length (recs L)) (hl : L.length < 4611686018427387904) :
    Does Try.prog B w0 26 [.slice A L.length c] F (fun r K => ∃ v : Int, r = .int .i64 v ∧ K = F ∧ (v = 2199023255552 ∧ 1099511627776 < wsum L ∨ v = wsum L ∧ wsum L < 4611686018427387904)) := by
  refine fn_walk Try.func26 48 rfl rfl rfl [(0, .slice A L.length c)] ⟨⟨rfl, rfl⟩, trivial⟩ ?_
  refine vc_seq ?_
  refine vc_region ?_
  refine vl_det (det_assign rfl) rfl ?_
  refine vl_end [(0, _)] ⟨rfl, trivial⟩ ?_
  refine then_next ?_
  refine vc_seq ?_
  refine vc_region ?_
  refine vl_det (det_assign rfl) rfl ?_
  refine vl_end [(0, _), (3, _)] ⟨rfl, rfl, trivial⟩ ?_
  refine then_next ?_
  refine vc_seq ?_
  refine vc_seq ?_
  refine vc_region ?_
  refine vl_det (det_assign rfl) rfl ?_
  refine vl_end [(0, _), (3, _), (4, _)] ⟨rfl, rfl, rfl, trivial⟩ ?_
  refine then_next ?_
  refine vc_block ?_
  refine vc_loopJ (fun zf zL zm => ∃ (k : Nat), (k ≤ L.length ∧ wsum (L.take k) ≤ 4398046511104) ∧ L.length - k = zm ∧ Sub zf [(0, .slice A L.length c), (3, .int .i64 (wsum (L.take k))), (4, .int .i64 k)] ∧ Wk zL (F)) _ ⟨0, ⟨Nat.zero_le _, by simp [wsum]⟩, rfl, ⟨(by first | rfl | exact int_to (by omega) | exact sl_to (by omega)), (by first | rfl | exact int_to (by omega) | exact sl_to (by omega)), (by first | rfl | exact int_to (by omega) | exact sl_to (by omega)), trivial⟩, .refl _⟩ ?_
  rintro _ _ _ ⟨k, ⟨hk, hwk⟩, rfl, hs, hp⟩
  refine vc_weaken _ hs (vc_wk hp ?_)
  clear hs hp
  refine vc_seq ?_
  refine vc_seq ?_
  refine vc_region ?_
  refine vl_det (det_move rfl) rfl ?_
  refine vl_det (det_move rfl) rfl ?_
  refine vl_det (det_len_sl Try.underlying22 rfl) rfl ?_
  refine vl_det (det_lss rfl rfl) rfl ?_
  refine vl_end [(0, _), (3, _), (4, _), (8, _)] ⟨rfl, rfl, rfl, rfl, trivial⟩ ?_
  refine then_next ?_
  refine vc_decideU rfl (fun h8 => ?_) (fun h8 => ?_)
  · skip
    have hws := wsum_take (L := L) (k := k) (by omega)
    have hrw : (recAt L k).w = 16 + (recAt L k).2.2.1.length + (recAt L k).2.2.2.length := rfl
    refine vc_skip ?_
    refine then_next ?_
    refine vc_seq ?_
    refine vc_block ?_
    refine vc_seq ?_
    refine vc_seq ?_
    refine vc_region ?_
    refine vl_cut 20 30 [(0, _), (3, _), (4, _)] (1099511627776 < wsum (L.take k) ∨ 1099511627776 < (recAt L k).2.2.1.length ∨ 1099511627776 < (recAt L k).2.2.2.length) ⟨rfl, rfl, rfl, trivial⟩ ?_ ?_
    · skip
      refine vl_det (det_move rfl) rfl ?_
      refine vl_det (det_gtr rfl rfl) rfl ?_
      refine vl_det (det_move rfl) rfl ?_
      refine vl_guardn rfl rfl rfl (fun h13 => ?_) (fun h13 => ?_)
      · skip
        refine vl_det (det_move rfl) rfl ?_
        refine vl_guard_t rfl rfl ?_
        refine vl_det (det_move rfl) rfl ?_
        refine vl_guard_t rfl rfl ?_
        refine vl_det (det_indexAddr (size := 4) Try.underlying22 (by kernel_rfl) rfl rfl rfl (by omega) (by first | (exact Bor.own (by repeat (first | exact List.Mem.head _ | apply List.Mem.tail))) | (repeat (first | assumption | apply Bor.cons)))) rfl ?_
        refine vl_guard_t rfl rfl ?_
        refine vl_det (det_fieldAddr_row_ Try.underlying35 rfl (by kernel_rfl) rfl (by first | (exact Bor.own (by repeat (first | exact List.Mem.head _ | apply List.Mem.tail))) | (repeat (first | assumption | apply Bor.cons))) (by omega) rfl) rfl ?_
        refine vl_guard_t rfl rfl ?_
        refine vl_det (det_load_rowf (by kernel_rfl) rfl (by first | (exact Bor.own (by repeat (first | exact List.Mem.head _ | apply List.Mem.tail))) | (repeat (first | assumption | apply Bor.cons))) (by omega) ((rec_get (by omega) (by decide)).trans rfl)) rfl ?_
        refine vl_guard_t rfl rfl ?_
        refine vl_det (det_len_s Try.underlying9 rfl) rfl ?_
        refine vl_guard_t rfl rfl ?_
        refine vl_det (det_gtr rfl rfl) rfl ?_
        refine vl_det (det_pick_f rfl rfl) rfl ?_
        refine vl_det (det_move rfl) rfl ?_
        refine vl_guardn rfl rfl rfl (fun h22 => ?_) (fun h22 => ?_)
        · skip
          refine vl_det (det_move rfl) rfl ?_
          refine vl_guard_t rfl rfl ?_
          refine vl_det (det_move rfl) rfl ?_
          refine vl_guard_t rfl rfl ?_
          refine vl_det (det_indexAddr (size := 4) Try.underlying22 (by kernel_rfl) rfl rfl rfl (by omega) (by first | (exact Bor.own (by repeat (first | exact List.Mem.head _ | apply List.Mem.tail))) | (repeat (first | assumption | apply Bor.cons)))) rfl ?_
          refine vl_guard_t rfl rfl ?_
          refine vl_det (det_fieldAddr_row_ Try.underlying35 rfl (by kernel_rfl) rfl (by first | (exact Bor.own (by repeat (first | exact List.Mem.head _ | apply List.Mem.tail))) | (repeat (first | assumption | apply Bor.cons))) (by omega) rfl) rfl ?_
          refine vl_guard_t rfl rfl ?_
          refine vl_det (det_load_rowf (by kernel_rfl) rfl (by first | (exact Bor.own (by repeat (first | exact List.Mem.head _ | apply List.Mem.tail))) | (repeat (first | assumption | apply Bor.cons))) (by omega) ((rec_get (by omega) (by decide)).trans rfl)) rfl ?_
          refine vl_guard_t rfl rfl ?_
          refine vl_det (det_len_s Try.underlying9 rfl) rfl ?_
          refine vl_guard_t rfl rfl ?_
          refine vl_det (det_gtr rfl rfl) rfl ?_
          refine vl_det (det_pick_f rfl rfl) rfl ?_
          exact vl_cut_end ⟨rfl, rfl, rfl, trivial⟩ (by first | rfl | exact bool_to_t (by first | omega | (exact ⟨fun h => by omega, fun h => by omega⟩)) | exact bool_to_f (by first | omega | (exact ⟨fun h => by omega, fun h => by omega⟩)) | exact bool_to (by first | omega | (exact ⟨fun h => by omega, fun h => by omega⟩)) | exact bool_to_b (by first | omega | (exact ⟨fun h => by omega, fun h => by omega⟩)))
        · skip
          refine vl_guard_f rfl rfl rfl rfl ?_
          refine vl_guard_f rfl rfl rfl rfl ?_
          refine vl_guard_f rfl rfl rfl rfl ?_
          refine vl_guard_f rfl rfl rfl rfl ?_
          refine vl_guard_f rfl rfl rfl rfl ?_
          refine vl_guard_f rfl rfl rfl rfl ?_
          refine vl_det (det_pick_t rfl rfl) rfl ?_
          exact vl_cut_end ⟨rfl, rfl, rfl, trivial⟩ (by first | rfl | exact bool_to_t (by first | omega | (exact ⟨fun h => by omega, fun h => by omega⟩)) | exact bool_to_f (by first | omega | (exact ⟨fun h => by omega, fun h => by omega⟩)) | exact bool_to (by first | omega | (exact ⟨fun h => by omega, fun h => by omega⟩)) | exact bool_to_b (by first | omega | (exact ⟨fun h => by omega, fun h => by omega⟩)))
      · skip
        refine vl_guard_f rfl rfl rfl rfl ?_
        refine vl_guard_f rfl rfl rfl rfl ?_
        refine vl_guard_f rfl rfl rfl rfl ?_
        refine vl_guard_f rfl rfl rfl rfl ?_
        refine vl_guard_f rfl rfl rfl rfl ?_
        refine vl_guard_f rfl rfl rfl rfl ?_
        refine vl_det (det_pick_t rfl rfl) rfl ?_
        refine vl_det (det_move rfl) rfl ?_
        refine vl_guard_f rfl rfl rfl rfl ?_
        refine vl_guard_f rfl rfl rfl rfl ?_
        refine vl_guard_f rfl rfl rfl rfl ?_
        refine vl_guard_f rfl rfl rfl rfl ?_
        refine vl_guard_f rfl rfl rfl rfl ?_
        refine vl_guard_f rfl rfl rfl rfl ?_
        refine vl_guard_f rfl rfl rfl rfl ?_
        refine vl_det (det_pick_t rfl rfl) rfl ?_
        exact vl_cut_end ⟨rfl, rfl, rfl, trivial⟩ (by first | rfl | exact bool_to_t (by first | omega | (exact ⟨fun h => by omega, fun h => by omega⟩)) | exact bool_to_f (by first | omega | (exact ⟨fun h => by omega, fun h => by omega⟩)) | exact bool_to (by first | omega | (exact ⟨fun h => by omega, fun h => by omega⟩)) | exact bool_to_b (by first | omega | (exact ⟨fun h => by omega, fun h => by omega⟩)))
    · skip
      refine vl_end [(0, _), (3, _), (4, _), (30, _)] ⟨rfl, rfl, rfl, rfl, trivial⟩ ?_
      refine then_next ?_
      refine vc_decideU rfl (fun h30 => ?_) (fun h30 => ?_)
      · skip
        refine vc_seq ?_
        refine vc_region ?_
        refine vl_det (det_assign rfl) rfl ?_
        refine vl_end [(2, _)] ⟨rfl, trivial⟩ ?_
        refine then_next ?_
        refine vc_ret ?_
        refine then_ret ?_
        refine in_ret ?_
        refine then_ret ?_
        refine loop_ret ?_
        refine in_ret ?_
        refine then_ret ?_
        refine ret1 rfl rfl ?_
        have hwl1 := wsum_le L k
        have hwl2 := wsum_le L (k + 1)
        exact ⟨_, rfl, rfl, .inl ⟨rfl, by omega⟩⟩
      · skip
        refine vc_skip ?_
        refine then_next ?_
        refine vq_region (by kernel_rfl) (by kernel_rfl) ?_
        refine vq_det (det_move rfl) rfl ?_
        refine vq_det (det_add rfl rfl (w_i64 (by omega) (by omega))) rfl ?_
        refine vq_det (det_move rfl) rfl ?_
        refine vq_det (det_move rfl) rfl ?_
        refine vq_det (det_indexAddr (size := 4) Try.underlying22 (by kernel_rfl) rfl rfl rfl (by omega) (by first | (exact Bor.own (by repeat (first | exact List.Mem.head _ | apply List.Mem.tail))) | (repeat (first | assumption | apply Bor.cons)))) rfl ?_
        refine vq_det (det_fieldAddr_row_ Try.underlying35 rfl (by kernel_rfl) rfl (by first | (exact Bor.own (by repeat (first | exact List.Mem.head _ | apply List.Mem.tail))) | (repeat (first | assumption | apply Bor.cons))) (by omega) rfl) rfl ?_
        refine vq_det (det_load_rowf (by kernel_rfl) rfl (by first | (exact Bor.own (by repeat (first | exact List.Mem.head _ | apply List.Mem.tail))) | (repeat (first | assumption | apply Bor.cons))) (by omega) ((rec_get (by omega) (by decide)).trans rfl)) rfl ?_
        refine vq_det (det_len_s Try.underlying9 rfl) rfl ?_
        refine vq_det (det_add rfl rfl (w_i64 (by omega) (by omega))) rfl ?_
        refine vq_det (det_move rfl) rfl ?_
        refine vq_det (det_move rfl) rfl ?_
        refine vq_det (det_indexAddr (size := 4) Try.underlying22 (by kernel_rfl) rfl rfl rfl (by omega) (by first | (exact Bor.own (by repeat (first | exact List.Mem.head _ | apply List.Mem.tail))) | (repeat (first | assumption | apply Bor.cons)))) rfl ?_
        refine vq_det (det_fieldAddr_row_ Try.underlying35 rfl (by kernel_rfl) rfl (by first | (exact Bor.own (by repeat (first | exact List.Mem.head _ | apply List.Mem.tail))) | (repeat (first | assumption | apply Bor.cons))) (by omega) rfl) rfl ?_
        refine vq_det (det_load_rowf (by kernel_rfl) rfl (by first | (exact Bor.own (by repeat (first | exact List.Mem.head _ | apply List.Mem.tail))) | (repeat (first | assumption | apply Bor.cons))) (by omega) ((rec_get (by omega) (by decide)).trans rfl)) rfl ?_
        refine vq_det (det_len_s Try.underlying9 rfl) rfl ?_
        refine vq_det (det_add rfl rfl (w_i64 (by omega) (by omega))) rfl ?_
        refine vq_det (det_assign rfl) rfl ?_
        refine vq_end [(0, _), (3, _), (4, _)] ⟨rfl, rfl, rfl, trivial⟩ ?_
        refine in_normal ?_
        refine then_next ?_
        refine vc_region ?_
        refine vl_det (det_move rfl) rfl ?_
        refine vl_det (det_add rfl rfl (w_i64 (by omega) (by omega))) rfl ?_
        refine vl_det (det_assign rfl) rfl ?_
        refine vl_end [(0, _), (3, _), (4, _)] ⟨rfl, rfl, rfl, trivial⟩ ?_
        refine in_loop_ ⟨_, by omega, k + 1, ⟨by omega, by omega⟩, rfl, ⟨(by first | rfl | exact int_to (by omega) | exact sl_to (by omega)), (by first | rfl | exact int_to (by omega) | exact sl_to (by omega)), (by first | rfl | exact int_to (by omega) | exact sl_to (by omega)), trivial⟩, .refl _⟩
  · skip
    refine vc_exit ?_
    refine then_exit ?_
    refine loop_exit ?_
    refine in_eq ?_
    refine then_next ?_
    refine vc_seq ?_
    refine vc_region ?_
    refine vl_det (det_move rfl) rfl ?_
    refine vl_det (det_assign rfl) rfl ?_
    refine vl_end [(2, _)] ⟨rfl, trivial⟩ ?_
    refine then_next ?_
    refine vc_ret ?_
    refine ret1 rfl rfl ?_
    have hkl : k = L.length := by omega
    subst hkl
    rw [List.take_length] at hwk ⊢
    exact ⟨_, rfl, rfl, .inr ⟨rfl, by omega⟩⟩
theorem great_d (L : List RecC) (hb : Bor B w0 F 4 (.slice A L.length c) L.length (recs L)) (n1 n2 : Nat) (h1 : n1 ≤ 1099511627776) (h2 : n2 ≤ 1099511627776) :
    Does Try.prog B w0 10 [.slice A L.length c, .int .i64 n1, .int .i64 n2] F (fun r K => ∃ b, r = .bool b ∧ K = F ∧ (b = false → L.length ≤ n1 ∧ wsum L ≤ n2)) := by
  refine fn_walk Try.func10 17 rfl rfl rfl [(0, .slice A L.length c), (1, .int .i64 n1), (2, .int .i64 n2)] ⟨⟨rfl, rfl⟩, ⟨rfl, rfl⟩, ⟨rfl, rfl⟩, trivial⟩ ?_
  refine vc_seq ?_
  refine vc_region ?_
  refine vl_det (det_assign rfl) rfl ?_
  refine vl_end [(0, _), (1, _), (2, _)] ⟨rfl, rfl, rfl, trivial⟩ ?_
  refine then_next ?_
  refine vc_seq ?_
  refine vc_region ?_
  refine vl_det (det_move rfl) rfl ?_
  refine vl_det (det_len_sl Try.underlying22 rfl) rfl ?_
  refine vl_det (det_move rfl) rfl ?_
  refine vl_det (det_gtr rfl rfl) rfl ?_
  refine vl_det (det_move rfl) rfl ?_
  refine vl_guardn rfl rfl rfl (fun h11 => ?_) (fun h11 => ?_)
  · skip
    refine vl_det (det_move rfl) rfl ?_
    refine vl_guard_t rfl rfl ?_
    refine vl_call co26 rfl (rweight_d L hb (by omega)) rfl ?_
    rintro _ _ ⟨v, rfl, hLL, hv⟩
    obtain rfl := hLL.symm
    refine vl_guard_t rfl rfl ?_
    refine vl_det (det_move rfl) rfl ?_
    refine vl_guard_t rfl rfl ?_
    refine vl_det (det_gtr rfl rfl) rfl ?_
    refine vl_det (det_pick_f rfl rfl) rfl ?_
    refine vl_det (det_assign rfl) rfl ?_
    refine vl_end [(6, _)] ⟨rfl, trivial⟩ ?_
    refine then_next ?_
    refine vc_ret ?_
    refine ret1 rfl rfl ?_
    refine ⟨_, rfl, rfl, fun h => ?_⟩
    have h' := of_decide_eq_false h
    exact ⟨by omega, by omega⟩
  · skip
    refine vl_guard_f rfl rfl rfl rfl ?_
    refine vl_guard_f rfl rfl rfl rfl ?_
    refine vl_guard_f rfl rfl rfl rfl ?_
    refine vl_det (det_pick_t rfl rfl) rfl ?_
    refine vl_det (det_assign rfl) rfl ?_
    refine vl_end [(6, _)] ⟨rfl, trivial⟩ ?_
    refine then_next ?_
    refine vc_ret ?_
    refine ret1 rfl rfl ?_
    exact ⟨_, rfl, rfl, fun h => by cases h⟩
end Go.Proofs.Ytpamjobiohbibaa
namespace Go.Proofs.Ytpamjobiohbibaa
open Go.RowKit
set_option linter.unusedVariables false
set_option maxRecDepth 20000
/-! ### What is carried out plainly is carried out so in a round -/
abbrev FR (l : Nat) : Fence := Fence.wide.inRound l
def NoDef (o : Oper) : Prop := ∀ c, o.op ≠ .defer c
def noDefB (o : Oper) : Bool := match o.op with | .defer _ => false | _ => true
theorem noDef_of {o : Oper} (h : noDefB o = true) : NoDef o := fun c e => by unfold noDefB at h; rw [e] at h; cases h
theorem noDef_all {l : List Oper} (h : l.all noDefB = true) : ∀ o ∈ l, NoDef o := fun o ho => noDef_of (List.all_eq_true.1 h o ho)
section
variable {P : Program} {l n : Nat} {Q : Exit → Act → World → Prop}
theorem rows_in {row : String} {args : Array Value} {w : World} {R : Value → World → Prop} (h : Rows P row args w R) : RowsIn (FR l) n P row args w R := fun c cs _ =>
  let ⟨v, w', r, s⟩ := h c cs
  ⟨v, w', r, (show StepsIn (Machine.fenced P Fence.wide) P _ _ from stepsIn_wide.2 s)⟩
theorem oper_in {o : Oper} {a : Act} {w : World} {K : Act → World → Prop} (hd : NoDef o) (h : o.wp P a w K Q) : o.wpIn (FR l) n P a w K Q := by
  refine ⟨fun _ _ => trivial, ?_⟩
  rw [Oper.semAt_eq _ _ _ hd]
  unfold Oper.wp at h
  generalize (execOp a.eval o).run P w = r at *
  cases r with
  | ok x w' =>
    cases x <;> simp only [Oper.upon, Oper.uponIn] at h ⊢ <;> first
      | exact h
      | exact ⟨fun h => by simp [Fence.inRound, Fence.wide] at h, CallsIn.inRound l (callsIn_wide.2 (Calls.mono h fun e w'' he => by cases e <;> exact he))⟩
      | exact ⟨fun h => by simp [Fence.inRound, Fence.wide] at h, rows_in h⟩
  | halt x w' => cases x <;> simp only [Oper.upon, Oper.uponIn] at h ⊢ <;> exact h
theorem list_in (hQ : ¬ LetsOut Q) {ops : Array Oper} : ∀ (lst : List Oper) (a : Act) (w : World), (∀ o ∈ lst, NoDef o) → wpList P ops Q lst a w → wpListIn (FR l) n P ops Q lst a w
  | [], _, _, _, h => h
  | o :: r, a, w, hd, h => by
    unfold wpList at h
    unfold wpListIn
    split at h
    · rename_i hw
      rw [if_pos hw]
      rcases h with h | h
      · exact Oper.wpIn_mono (fun a w h => list_in hQ r a w (fun o ho => hd o (List.mem_cons_of_mem _ ho)) h) (oper_in (hd o List.mem_cons_self) h)
      · exact absurd h.2 hQ
    · rename_i hw
      rw [if_neg hw]
      exact ⟨fun _ _ => trivial, list_in hQ r _ w (fun o ho => hd o (List.mem_cons_of_mem _ ho)) h⟩
theorem any_in (hQ : ¬ LetsOut Q) {ops : Array Oper} {md : Region.Mode} (hd : ∀ o ∈ ops, NoDef o) : ∀ (fuel : Nat) (li : Array Bool) (a : Act) (w : World), wpAny P md ops Q fuel li a w → wpAnyIn (FR l) n P md ops Q fuel li a w
  | 0, _, _, _, h => h
  | fuel + 1, li, a, w, h => by
    refine ⟨h.1, fun i hi => ?_⟩
    have h := h.2 i hi
    unfold wpOp at h
    unfold wpOpIn
    cases ho : ops[i]? with
    | none =>
      simp only [ho] at h ⊢
      exact any_in hQ hd fuel _ a w h
    | some o =>
      simp only [ho] at h ⊢
      have hdo : NoDef o := hd o (Array.mem_of_getElem? ho)
      by_cases hw : Region.wanted o (yielded ops a.tmps) = true
      · rw [if_pos hw] at h ⊢
        rcases h with h | h
        · exact Oper.wpIn_mono (fun a w h => any_in hQ hd fuel _ a w h) (oper_in hdo h)
        · exact absurd h.2 hQ
      · rw [if_neg hw] at h ⊢
        exact ⟨fun _ _ => trivial, any_in hQ hd fuel _ _ w h⟩
end
/-! ### A round's body -/
def NX (C : Cx) (Q : Fr → List Ch → Prop) : Exit → Act → World → Prop
  | .normal, a, w => ∃ fr L, Agr C.N fr a ∧ SL C.B C.w0 L w ∧ Q fr L
  | _, _, _ => False
def NQ (Q : Fr → List Ch → Prop) : Exit → Fr → List Ch → Prop
  | .normal, fr, L => Q fr L
  | _, _, _ => False
def VR (C : Cx) (l n : Nat) (c : Code) (Q : Fr → List Ch → Prop) (fr : Fr) (L : List Ch) : Prop := ∀ a w, Agr C.N fr a → SL C.B C.w0 L w → c.wpIn (FR l) n C.P (NX C Q) a w
section
variable {C : Cx} {l n : Nat} {Q : Fr → List Ch → Prop} {fr : Fr} {L S : List Ch} {x y : Code}
theorem lift_nq : ∀ (e : Exit) (a : Act) (w : World), lift C (NQ Q) e a w → NX C Q e a w := fun e a w ⟨fr, L, ha, hs, hq⟩ => by
  cases e <;> first | exact ⟨fr, L, ha, hs, hq⟩ | exact hq.elim
theorem not_out : ¬ LetsOut (lift C (NQ Q)) := fun ⟨_, _, _, _, _, _, h⟩ => h
theorem not_outP : ¬ LetsOut (NoPanic (lift C (NQ Q))) := fun ⟨_, _, _, _, _, _, h⟩ => h
theorem vr_seq (h : VR C l n x (fun fr L => VR C l n y Q fr L) fr L) : VR C l n (.seq x y) Q fr L := fun a w ha hs =>
  wpIn_seq (wpIn_mono (h a w ha hs) fun e a w hq => by
    cases e <;> first | exact hq.elim | (obtain ⟨fr, L, ha, hs, hq⟩ := hq; exact hq a w ha hs))
theorem vr_block {id : Nat} (h : VR C l n x Q fr L) : VR C l n (.block id x) Q fr L := fun a w ha hs =>
  wpIn_block (wpIn_mono (h a w ha hs) fun e a w hq => by
    cases e <;> first | exact hq.elim | exact hq)
theorem vr_region {id : Nat} {lst : List Oper} (hd : lst.all noDefB = true) (h : VL C lst.toArray (NQ Q) lst fr L) : VR C l n (.region id lst.toArray false) Q fr L := fun a w ha hs =>
  wpIn_mono (wpIn_region_lit (list_in not_out lst a w (noDef_all hd) (h a w ha hs))) lift_nq
theorem vr_held {id : Nat} {lst : List Oper} (hd : lst.all noDefB = true) (hm : C.P.follows .mixedOrders = true) (hS : S.Sublist L) (h : VH C lst.toArray S (NQ Q) lst.toArray.size (Array.replicate lst.toArray.size false) fr L) : VR C l n (.region id lst.toArray true) Q fr L := fun a w ha hs =>
  wpIn_mono (wpIn_region_any hm (any_in not_outP (fun o ho => noDef_all hd o (by simpa using ho)) _ _ a _ (wpAny_of_held _ _ _ _ (h a _ ha (hs.drewN 1) ((hs.drewN 1).sub hS))))) fun e a w h => lift_nq e a w (NoPanic.imp e a w h)
theorem nq (h : Q fr L) : NQ Q .normal fr L := h
end
/-! ### Acts with marks -/
def mark (D : Nat) : Deferred := { target := .collected D, args := #[] }
theorem put_defers (a : Act) (ds : List Deferred) (d : Option Tmp) (v : Value) : ({ a with defers := a.defers ++ ds } : Act).put d v = { a.put d v with defers := (a.put d v).defers ++ ds } := by cases d <;> rfl
theorem list_marks {P : Program} {ops : Array Oper} {Q : Exit → Act → World → Prop} (ds : List Deferred) : ∀ (lst : List Oper) (a : Act) (w : World), wpList P ops Q lst a w →
    wpList P ops (fun e a' w' => ∃ a0 : Act, a' = { a0 with defers := a0.defers ++ ds } ∧ Q e a0 w') lst { a with defers := a.defers ++ ds } w
  | [], a, w, h => ⟨a, rfl, h⟩
  | o :: r, a, w, h => by
    unfold wpList at h ⊢
    by_cases hw : Region.wanted o (yielded ops a.tmps) = true
    · rw [if_pos hw] at h
      rw [if_pos (show Region.wanted o (yielded ops ({ a with defers := a.defers ++ ds } : Act).tmps) = true from hw)]
      rcases h with h | ⟨h1, a1, w1, h2⟩
      · refine .inl ?_
        have he : ({ a with defers := a.defers ++ ds } : Act).eval = a.eval := rfl
        unfold Oper.wp at h ⊢
        rw [he]
        generalize (execOp a.eval o).run P w = res at *
        cases res with
        | ok x w' =>
          cases x <;> simp only [Oper.upon] at h ⊢ <;> first
            | (rw [put_defers]; exact list_marks ds r _ _ h)
            | (refine Calls.mono h fun e w'' he => ?_
               cases e <;> dsimp only at he ⊢ <;> first
                | (rw [put_defers]; exact list_marks ds r _ _ he)
                | exact ⟨_, rfl, he⟩
                | (obtain ⟨a1, w1, h2⟩ := he; exact ⟨_, w1, a1, rfl, h2⟩))
            | exact Rows.mono h fun v w'' he => by rw [put_defers]; exact list_marks ds r _ _ he
            | (have h2 := list_marks ds r _ _ h; rw [← put_defers] at h2; exact h2)
        | halt x w' => cases x <;> simp only [Oper.upon] at h ⊢ <;> first | exact ⟨_, rfl, h⟩ | exact h
      · exact .inr ⟨h1, _, w1, a1, rfl, h2⟩
    · rw [if_neg hw] at h
      rw [if_neg (show ¬ Region.wanted o (yielded ops ({ a with defers := a.defers ++ ds } : Act).tmps) = true from hw), put_defers]
      exact list_marks ds r _ _ h
def VM (C : Cx) (D : Nat) (c : Code) (QQ : Exit → Act → World → Prop) (fr : Fr) (L : List Ch) : Prop := ∀ a w, a.defers = [mark D] → Agr C.N fr { a with defers := [] } → SL C.B C.w0 L w → c.wp C.P QQ a w
section
variable {C : Cx} {D : Nat} {QQ : Exit → Act → World → Prop} {fr : Fr} {L L' : List Ch} {x y : Code}
theorem vm_seq {id : Nat} {lst : List Oper} (h : VL C lst.toArray (NQ fun fr L => VM C D y QQ fr L) lst fr L) : VM C D (.seq (.region id lst.toArray false) y) QQ fr L := fun a w hd ha hs => by
  have h1 := list_marks [mark D] lst _ w (h { a with defers := [] } w ha hs)
  rw [show ({ ({ a with defers := [] } : Act) with defers := ({ a with defers := [] } : Act).defers ++ [mark D] } : Act) = a by rw [← hd]; rfl] at h1
  refine wp_seq (wp_mono (wp_region_lit h1) fun e a' w' hq => ?_)
  obtain ⟨a0, rfl, fr', L', ha', hs', hq⟩ := hq
  cases e <;> first
    | exact hq.elim
    | (refine hq _ w' (by simp [ha'.defers]) ?_ hs'
       have e0 : ({ ({ a0 with defers := a0.defers ++ [mark D] } : Act) with defers := [] } : Act) = a0 := by rw [← ha'.defers]
       rw [e0]; exact ha')
/-! ### A function with a range over a function -/
def FG (C : Cx) (fn : Func) (R : Value → List Ch → Prop) : Exit → Act → World → Prop := bodyPostM Fence.wide 8 C.P fn fun e w' => ∃ v L', e = .returned v ∧ R v L' ∧ SL C.B C.w0 L' w'
def VG (C : Cx) (c : Code) (QQ : Exit → Act → World → Prop) (fr : Fr) (L : List Ch) : Prop := ∀ a w, Agr C.N fr a → SL C.B C.w0 L w → c.wp C.P QQ a w
def TG (C : Cx) (y : Code) (QQ : Exit → Act → World → Prop) : Exit → Fr → List Ch → Prop
  | .normal, fr, L => VG C y QQ fr L
  | e, fr, L => ∀ a w, Agr C.N fr a → SL C.B C.w0 L w → QQ e a w
theorem vg_seq (h : VC C x (TG C y QQ) fr L) : VG C (.seq x y) QQ fr L := fun a w ha hs =>
  wp_seq (wp_mono (h a w ha hs) fun e a w ⟨fr, L, ha, hs, hq⟩ => by
    cases e <;> exact hq a w ha hs)
theorem tg_next (h : VG C y QQ fr L) : TG C y QQ .normal fr L := h
theorem tg_ret {fn : Func} {R : Value → List Ch → Prop} {P : Program} {B N : Nat} {w0 : World} {y : Code} (hN : fn.ntmps = N) (h : Ret P fn R .ret fr L) : TG ⟨P, N, B, w0⟩ y (FG ⟨P, N, B, w0⟩ fn R) .ret fr L := fun a w ha hs => by
  subst hN
  obtain ⟨v, L', h1, h2, h3⟩ := h B w0 a w ha hs
  show LeavesInM _ _ _ _ _ _ a.defers _ _
  rw [ha.defers]
  exact ⟨v, h1, v, L', rfl, h2, h3⟩
theorem SL.unmark {B : Nat} {w0 w : World} (h : SL B w0 (.obj D (.deferred (some [])) :: L) w) : SL B w0 L (w.putObj D (.deferred none)) :=
  (h.turn (c' := .obj D (.deferred none)) (grownBy_putObj' w D _) ⟨h.head.1, World.putObj_heap_same (Array.getElem?_eq_some_iff.1 h.head.2).1⟩ (.inr (.inl rfl))).tail
theorem vm_ret {fn : Func} {R : Value → List Ch → Prop} {P : Program} {B N : Nat} {w0 : World} (hN : fn.ntmps = N) (hp : L.Perm (.obj D (.deferred (some [])) :: L')) (h : Ret P fn R .ret fr L') : VM ⟨P, N, B, w0⟩ D .ret (FG ⟨P, N, B, w0⟩ fn R) fr L := fun a w hd ha hs => by
  subst hN
  have hs' := hs.perm hp
  obtain ⟨v, L'', h1, h2, h3⟩ := h B w0 _ _ ha hs'.unmark
  refine wp_ret ?_
  show LeavesInM _ _ _ _ _ _ a.defers _ _
  rw [hd]
  exact ⟨by simp, .inl ⟨D, _, rfl, run_takeDeferred hs'.head.2, v, h1, v, L'', rfl, h2, h3⟩⟩
theorem fn_marks {P : Program} {B : Nat} {w0 : World} {f : FuncId} {fn : Func} {c : Code} {args : List Value} {R : Value → List Ch → Prop} (hf : P.funcs[f]? = some fn) (N : Nat) (hN : fn.ntmps = N) (hb : fn.body = some c) (hl : Nat.ble args.length N = true) (fr0 : Fr) (hi : Ini N args fr0)
    (h : VG ⟨P, N, B, w0⟩ c (FG ⟨P, N, B, w0⟩ fn R) fr0 L) : Does P B w0 f args L R := fun w hw => by
  have hl := Nat.le_of_ble_eq_true hl
  subst hN
  refine callsIn_wide.1 (callsIn_of_wp_marks (n := 8) hf hb trivial (wpIn_wide.2 (h _ w ⟨rfl, ?_, fun t v ht => ?_⟩ hw)) rfl)
  · simp; omega
  · obtain ⟨h1, h2⟩ := hi.look t v ht
    simp only [List.size_toArray]
    by_cases hlt : t < args.length
    · rw [Array.getElem?_append_left (by simpa using hlt)]
      simp [hlt] at h2
      simp [hlt, h2]
    · rw [Array.getElem?_append_right (by simpa using hlt)]
      have h3 : args[t]? = none := List.getElem?_eq_none (by omega)
      simp [h3] at h2
      subst h2
      simp
      rw [Array.getElem?_replicate, if_pos (by omega)]
end
end Go.Proofs.Ytpamjobiohbibaa
