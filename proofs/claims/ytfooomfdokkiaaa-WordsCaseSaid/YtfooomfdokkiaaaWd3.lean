/-
  The document's Words, by frames; the example. Conditions: texts are no longer than 2^38.
-/
import Derived.Test.YtfooomfdokkiaaaWd2
namespace Go.Proofs.Ytfooomfdokkiaaa
open Go.RowKit
set_option linter.unusedVariables false
variable {B : Nat} {w0 : World} {F : List Ch}
theorem RefAt.test {l : List UInt8} {k : Nat} {OUT : List (List UInt8)} {prev : Bool} (h : RefAt l k OUT prev) (hk : k ≤ l.length) : prev = decide (0 < k ∧ small (l.getD (k - 1) 0) ≠ 0) := by
  rcases Nat.eq_zero_or_pos k with h0 | h0
  · rw [h.2.1 h0, decide_eq_false (by omega)]
  · have hlt : k - 1 < l.length := by omega
    rw [h.2.2.1 (l.getD (k - 1) 0) h0 (by rw [List.getElem?_eq_getElem hlt]; simp [List.getD, List.getElem?_eq_getElem hlt])]
    simp [h0]
theorem get_getD {l : List UInt8} {k : Nat} (h : k < l.length) : l[k]? = some (l.getD k 0) := by
  rw [List.getElem?_eq_getElem h]; simp [List.getD, List.getElem?_eq_getElem h]
theorem TakenAt.stop' {l : List UInt8} {i m : Nat} {R : List UInt8} (h : TakenAt l i m R) (hm : m ≤ 24) (hi : i + m ≤ l.length) (hs : ¬ ((i + m < l.length ∧ small (l.getD (i + m) 0) ≠ 0) ∧ m < 24)) : R = wordAt (l.drop i) := by
  refine h.stop hm hi ?_
  by_cases h1 : i + m < l.length
  · by_cases h2 : small (l.getD (i + m) 0) = 0
    · exact .inr (.inl ⟨_, get_getD h1, h2⟩)
    · exact .inr (.inr (Nat.le_antisymm hm (Nat.le_of_not_lt fun h => hs ⟨⟨h1, h2⟩, h⟩)))
  · exact .inl (by omega)
set_option maxHeartbeats 400000 in
theorem rwords_d (l : List UInt8) (hl : l.length ≤ 274877906944) : Does Try.prog B w0 13 [.string ⟨l.toArray⟩] F (fun r L => ∃ A c, r = .slice A (wordsL l).length c ∧ L = .own 9 1 A (wordsL l).length c (strs (wordsL l)) :: F) := by
  refine fn_walk Try.func13 62 rfl rfl rfl [(0, .string ⟨l.toArray⟩)] ⟨⟨rfl, rfl⟩, trivial⟩ ?_
  refine vc_seq ?_
  refine vc_region ?_
  refine vl_det (det_assign rfl) rfl ?_
  refine vl_end [(0, _)] ⟨rfl, trivial⟩ ?_
  refine then_next ?_
  refine vc_seq ?_
  refine vc_region ?_
  refine vl_det (det_assign rfl) rfl ?_
  refine vl_end [(0, _), (3, _)] ⟨rfl, rfl, trivial⟩ ?_
  refine then_next ?_
  refine vc_seq ?_
  refine vc_seq ?_
  refine vc_region ?_
  refine vl_det (det_assign rfl) rfl ?_
  refine vl_end [(0, _), (3, _), (4, _)] ⟨rfl, rfl, rfl, trivial⟩ ?_
  refine then_next ?_
  refine vc_block ?_
  refine vc_nil_row 9 1 none ?_
  refine vc_loopJ (fun fr L mm => ∃ (k n : Nat) (OUT : List (List UInt8)) (prev : Bool) (A : Option Addr) (c : Nat), (k ≤ l.length ∧ RefAt l k OUT prev ∧ n = OUT.length) ∧ l.length - k = mm ∧ Sub fr [(0, .string ⟨l.toArray⟩), (3, .slice A n c), (4, .int .i64 k)] ∧ Wk L (.own 9 1 A n c (strs OUT) :: F)) _ ⟨0, 0, [], false, none, 0, ⟨Nat.zero_le _, RefAt.start l, rfl⟩, rfl, ⟨(by first | rfl | exact int_to (by omega)), (by first | rfl | exact int_to (by omega)), (by first | rfl | exact int_to (by omega)), trivial⟩, .refl _⟩ ?_
  rintro _ _ _ ⟨k, n, OUT, prev, A, c, ⟨hk, hR, hn⟩, rfl, hs, hp⟩
  refine vc_weaken _ hs (vc_wk hp ?_)
  clear hs hp
  have hol := hR.2.2.2
  refine vc_seq ?_
  refine vc_seq ?_
  refine vc_region ?_
  refine vl_det (det_move rfl) rfl ?_
  refine vl_det (det_move rfl) rfl ?_
  refine vl_det (det_len_s Try.underlying9 rfl) rfl ?_
  refine vl_det (det_lss rfl rfl) rfl ?_
  refine vl_end [(0, _), (3, _), (4, _), (10, _)] ⟨rfl, rfl, rfl, rfl, trivial⟩ ?_
  refine then_next ?_
  refine vc_decideU rfl (fun h10 => ?_) (fun h10 => ?_)
  · skip
    refine vc_skip ?_
    refine then_next ?_
    refine vc_seq ?_
    refine vc_block ?_
    refine vc_seq ?_
    refine vc_seq ?_
    refine vc_region ?_
    refine vl_cut 17 29 [(0, _), (3, _), (4, _)] (small (l.getD k 0) = 0 ∨ (0 < k ∧ small (l.getD (k - 1) 0) ≠ 0)) ⟨rfl, rfl, rfl, trivial⟩ ?_ ?_
    · skip
      refine vl_det (det_move rfl) rfl ?_
      refine vl_det (det_move rfl) rfl ?_
      refine vl_det (det_at_str Try.underlying9 rfl rfl rfl (by omega)) rfl ?_
      refine vl_call co14 rfl (rsmall_d _) rfl ?_
      rintro _ _ ⟨rfl, rfl⟩
      refine vl_det (det_eql rfl rfl) rfl ?_
      refine vl_det (det_move rfl) rfl ?_
      refine vl_guardn rfl rfl rfl (fun h18 => ?_) (fun h18 => ?_)
      · skip
        refine vl_det (det_move rfl) rfl ?_
        refine vl_guard_t rfl rfl ?_
        refine vl_det (det_gtr rfl rfl) rfl ?_
        refine vl_guard_t rfl rfl ?_
        refine vl_det (det_move rfl) rfl ?_
        refine vl_guardp rfl rfl rfl (fun h21 => ?_) (fun h21 => ?_)
        · skip
          refine vl_det (det_move rfl) rfl ?_
          refine vl_guard_t rfl rfl ?_
          refine vl_det (det_move rfl) rfl ?_
          refine vl_guard_t rfl rfl ?_
          refine vl_det (det_sub rfl rfl (w_i64 (by omega) (by omega))) rfl ?_
          refine vl_guard_t rfl rfl ?_
          refine vl_det (det_at_str (i := k - 1) Try.underlying9 rfl rfl (by omega) (by omega)) rfl ?_
          refine vl_guard_t rfl rfl ?_
          refine vl_call co14 rfl (rsmall_d _) rfl ?_
          rintro _ _ ⟨rfl, rfl⟩
          refine vl_guard_t rfl rfl ?_
          refine vl_det (det_neq rfl rfl) rfl ?_
          refine vl_guard_t rfl rfl ?_
          refine vl_det (det_pick_t rfl rfl) rfl ?_
          refine vl_det (det_pick_f rfl rfl) rfl ?_
          exact vl_cut_end ⟨rfl, rfl, rfl, trivial⟩ (by first | rfl | exact bool_to_t (by first | omega | (simp only [← UInt8.toNat_inj, ne_eq] at *; simp at *; omega)) | exact bool_to_f (by first | omega | (simp only [← UInt8.toNat_inj, ne_eq] at *; simp at *; omega)) | exact bool_to (by first | omega | (simp only [← UInt8.toNat_inj, ne_eq] at *; simp at *; omega)) | exact bool_to_b (by first | omega | (simp only [← UInt8.toNat_inj, ne_eq] at *; simp at *; omega)))
        · skip
          refine vl_guard_f rfl rfl rfl rfl ?_
          refine vl_guard_f rfl rfl rfl rfl ?_
          refine vl_guard_f rfl rfl rfl rfl ?_
          refine vl_guard_f rfl rfl rfl rfl ?_
          refine vl_guard_f rfl rfl rfl rfl ?_
          refine vl_guard_t rfl rfl ?_
          refine vl_det (det_pick_f rfl rfl) rfl ?_
          refine vl_det (det_pick_f rfl rfl) rfl ?_
          exact vl_cut_end ⟨rfl, rfl, rfl, trivial⟩ (by first | rfl | exact bool_to_t (by first | omega | (simp only [← UInt8.toNat_inj, ne_eq] at *; simp at *; omega)) | exact bool_to_f (by first | omega | (simp only [← UInt8.toNat_inj, ne_eq] at *; simp at *; omega)) | exact bool_to (by first | omega | (simp only [← UInt8.toNat_inj, ne_eq] at *; simp at *; omega)) | exact bool_to_b (by first | omega | (simp only [← UInt8.toNat_inj, ne_eq] at *; simp at *; omega)))
      · skip
        refine vl_guard_f rfl rfl rfl rfl ?_
        refine vl_guard_f rfl rfl rfl rfl ?_
        refine vl_guard_u rfl rfl rfl ?_
        refine vl_guard_u rfl rfl rfl ?_
        refine vl_guard_u rfl rfl rfl ?_
        refine vl_guard_u rfl rfl rfl ?_
        refine vl_guard_u rfl rfl rfl ?_
        refine vl_guard_u rfl rfl rfl ?_
        refine vl_guard_f rfl rfl rfl rfl ?_
        refine vl_det (det_pick_t rfl rfl) rfl ?_
        exact vl_cut_end ⟨rfl, rfl, rfl, trivial⟩ (by first | rfl | exact bool_to_t (by first | omega | (simp only [← UInt8.toNat_inj, ne_eq] at *; simp at *; omega)) | exact bool_to_f (by first | omega | (simp only [← UInt8.toNat_inj, ne_eq] at *; simp at *; omega)) | exact bool_to (by first | omega | (simp only [← UInt8.toNat_inj, ne_eq] at *; simp at *; omega)) | exact bool_to_b (by first | omega | (simp only [← UInt8.toNat_inj, ne_eq] at *; simp at *; omega)))
    · skip
      refine vl_end [(0, _), (3, _), (4, _), (29, _)] ⟨rfl, rfl, rfl, rfl, trivial⟩ ?_
      refine then_next ?_
      refine vc_decideU rfl (fun h29 => ?_) (fun h29 => ?_)
      · skip
        have hprev := hR.test hk
        refine vc_exit ?_
        refine then_exit ?_
        refine in_eq ?_
        refine then_next ?_
        refine vc_region ?_
        refine vl_det (det_move rfl) rfl ?_
        refine vl_det (det_add rfl rfl (w_i64 (by omega) (by omega))) rfl ?_
        refine vl_det (det_assign rfl) rfl ?_
        refine vl_end [(0, _), (3, _), (4, _)] ⟨rfl, rfl, rfl, trivial⟩ ?_
        refine in_loop_ ⟨_, by omega, k + 1, n, OUT, _, A, c, ⟨by omega, hR.skip (get_getD (by omega)) (by rw [hprev]; simpa using h29), hn⟩, rfl, ⟨(by first | rfl | exact int_to (by omega)), (by first | rfl | exact int_to (by omega)), (by first | rfl | exact int_to (by omega)), trivial⟩, .refl _⟩
      · skip
        refine vc_skip ?_
        refine then_next ?_
        refine vc_seq ?_
        refine vc_region ?_
        refine vl_det (det_assign rfl) rfl ?_
        refine vl_end [(0, _), (3, _), (4, _), (5, _)] ⟨rfl, rfl, rfl, rfl, trivial⟩ ?_
        refine then_next ?_
        refine vc_seq ?_
        refine vc_seq ?_
        refine vc_region ?_
        refine vl_det (det_move rfl) rfl ?_
        refine vl_det (det_assign rfl) rfl ?_
        refine vl_end [(0, _), (3, _), (4, _), (5, _), (6, _)] ⟨rfl, rfl, rfl, rfl, rfl, trivial⟩ ?_
        refine then_next ?_
        refine vc_block ?_
        refine vc_nil_row 5 1 none ?_
        refine vc_loopJ (fun fr L mm => ∃ (m : Nat) (R : List UInt8) (A2 : Option Addr) (c2 : Nat), (m ≤ 24 ∧ k + m ≤ l.length ∧ TakenAt l k m R) ∧ l.length - (k + m) = mm ∧ Sub fr [(0, .string ⟨l.toArray⟩), (3, .slice A n c), (4, .int .i64 k), (5, .slice A2 m c2), (6, .int .i64 ((k + m : Nat) : Int))] ∧ Wk L (.own 5 1 A2 m c2 (bv R) :: .own 9 1 A n c (strs OUT) :: F)) _ ⟨0, [], none, 0, ⟨by omega, by omega, rfl, by simp⟩, rfl, ⟨(by first | rfl | exact int_to (by omega)), (by first | rfl | exact int_to (by omega)), (by first | rfl | exact int_to (by omega)), (by first | rfl | exact int_to (by omega)), (by first | rfl | exact int_to (by omega)), trivial⟩, .refl _⟩ ?_
        rintro _ _ _ ⟨m, R, A2, c2, ⟨hm, hkm, hT⟩, rfl, hs, hp⟩
        refine vc_weaken _ hs (vc_wk hp ?_)
        clear hs hp
        refine vc_seq ?_
        refine vc_seq ?_
        refine vc_region ?_
        refine vl_cut 16 46 [(0, _), (3, _), (4, _), (5, _), (6, _)] ((k + m < l.length ∧ small (l.getD (k + m) 0) ≠ 0) ∧ m < 24) ⟨rfl, rfl, rfl, rfl, rfl, trivial⟩ ?_ ?_
        · skip
          refine vl_det (det_move rfl) rfl ?_
          refine vl_det (det_move rfl) rfl ?_
          refine vl_det (det_len_s Try.underlying9 rfl) rfl ?_
          refine vl_det (det_lss rfl rfl) rfl ?_
          refine vl_det (det_move rfl) rfl ?_
          refine vl_guardp rfl rfl rfl (fun h35 => ?_) (fun h35 => ?_)
          · skip
            refine vl_det (det_move rfl) rfl ?_
            refine vl_guard_t rfl rfl ?_
            refine vl_det (det_move rfl) rfl ?_
            refine vl_guard_t rfl rfl ?_
            refine vl_det (det_at_str Try.underlying9 rfl rfl rfl (by omega)) rfl ?_
            refine vl_guard_t rfl rfl ?_
            refine vl_call co14 rfl (rsmall_d _) rfl ?_
            rintro _ _ ⟨rfl, rfl⟩
            refine vl_guard_t rfl rfl ?_
            refine vl_det (det_neq rfl rfl) rfl ?_
            refine vl_det (det_pick_t rfl rfl) rfl ?_
            refine vl_det (det_move rfl) rfl ?_
            refine vl_guardp rfl rfl rfl (fun h42 => ?_) (fun h42 => ?_)
            · skip
              refine vl_det (det_move rfl) rfl ?_
              refine vl_guard_t rfl rfl ?_
              refine vl_det (det_len_sl Try.underlying28 rfl) rfl ?_
              refine vl_guard_t rfl rfl ?_
              refine vl_det (det_lss rfl rfl) rfl ?_
              refine vl_det (det_pick_t rfl rfl) rfl ?_
              exact vl_cut_end ⟨rfl, rfl, rfl, rfl, rfl, trivial⟩ (by first | rfl | exact bool_to_t (by first | omega | (simp only [← UInt8.toNat_inj, ne_eq] at *; simp at *; omega)) | exact bool_to_f (by first | omega | (simp only [← UInt8.toNat_inj, ne_eq] at *; simp at *; omega)) | exact bool_to (by first | omega | (simp only [← UInt8.toNat_inj, ne_eq] at *; simp at *; omega)) | exact bool_to_b (by first | omega | (simp only [← UInt8.toNat_inj, ne_eq] at *; simp at *; omega)))
            · skip
              refine vl_guard_f rfl rfl rfl rfl ?_
              refine vl_guard_f rfl rfl rfl rfl ?_
              refine vl_det (det_pick_f rfl rfl) rfl ?_
              exact vl_cut_end ⟨rfl, rfl, rfl, rfl, rfl, trivial⟩ (by first | rfl | exact bool_to_t (by first | omega | (simp only [← UInt8.toNat_inj, ne_eq] at *; simp at *; omega)) | exact bool_to_f (by first | omega | (simp only [← UInt8.toNat_inj, ne_eq] at *; simp at *; omega)) | exact bool_to (by first | omega | (simp only [← UInt8.toNat_inj, ne_eq] at *; simp at *; omega)) | exact bool_to_b (by first | omega | (simp only [← UInt8.toNat_inj, ne_eq] at *; simp at *; omega)))
          · skip
            refine vl_guard_f rfl rfl rfl rfl ?_
            refine vl_guard_f rfl rfl rfl rfl ?_
            refine vl_guard_f rfl rfl rfl rfl ?_
            refine vl_guard_f rfl rfl rfl rfl ?_
            refine vl_det (det_pick_f rfl rfl) rfl ?_
            refine vl_det (det_move rfl) rfl ?_
            refine vl_guard_f rfl rfl rfl rfl ?_
            refine vl_guard_f rfl rfl rfl rfl ?_
            refine vl_guard_f rfl rfl rfl rfl ?_
            refine vl_det (det_pick_f rfl rfl) rfl ?_
            exact vl_cut_end ⟨rfl, rfl, rfl, rfl, rfl, trivial⟩ (by first | rfl | exact bool_to_t (by first | omega | (simp only [← UInt8.toNat_inj, ne_eq] at *; simp at *; omega)) | exact bool_to_f (by first | omega | (simp only [← UInt8.toNat_inj, ne_eq] at *; simp at *; omega)) | exact bool_to (by first | omega | (simp only [← UInt8.toNat_inj, ne_eq] at *; simp at *; omega)) | exact bool_to_b (by first | omega | (simp only [← UInt8.toNat_inj, ne_eq] at *; simp at *; omega)))
        · skip
          refine vl_end [(0, _), (3, _), (4, _), (5, _), (6, _), (46, _)] ⟨rfl, rfl, rfl, rfl, rfl, rfl, trivial⟩ ?_
          refine then_next ?_
          refine vc_decideU rfl (fun h46 => ?_) (fun h46 => ?_)
          · skip
            refine vc_skip ?_
            refine then_next ?_
            refine vc_seq ?_
            refine vc_block ?_
            refine vc_region ?_
            refine vl_det (det_move rfl) rfl ?_
            refine vl_det (det_move rfl) rfl ?_
            refine vl_det (det_move rfl) rfl ?_
            refine vl_det (det_at_str Try.underlying9 rfl rfl rfl (by omega)) rfl ?_
            refine vl_call co14 rfl (rsmall_d _) rfl ?_
            rintro _ _ ⟨rfl, rfl⟩
            refine vl_push slT28 rfl rfl rfl rfl rfl (fun _ => rfl) (by repeat (first | exact .hd | apply Sel.tl)) (by omega) (by omega) ?_
            intro _ A55 c55
            refine vl_det (det_assign rfl) rfl ?_
            refine vl_end [(0, _), (3, _), (4, _), (5, _), (6, _)] ⟨rfl, rfl, rfl, rfl, rfl, trivial⟩ ?_
            refine in_normal ?_
            refine then_next ?_
            refine vc_region ?_
            refine vl_det (det_move rfl) rfl ?_
            refine vl_det (det_add rfl rfl (w_i64 (by omega) (by omega))) rfl ?_
            refine vl_det (det_assign rfl) rfl ?_
            refine vl_end [(0, _), (3, _), (4, _), (5, _), (6, _)] ⟨rfl, rfl, rfl, rfl, rfl, trivial⟩ ?_
            refine in_loop_ ⟨_, by omega, m + 1, R ++ [small (l.getD (k + m) 0)], A55, c55, ⟨by omega, by omega, hT.more (get_getD (by omega)) h46.1.2⟩, rfl, ⟨(by first | rfl | exact int_to (by omega)), (by first | rfl | exact int_to (by omega)), (by first | rfl | exact int_to (by omega)), (by first | rfl | exact int_to (by omega)), (by first | rfl | exact int_to (by omega)), trivial⟩, wk_own rfl (by simp [bv]) (.refl _)⟩
          · skip
            refine vc_exit ?_
            refine then_exit ?_
            refine loop_exit ?_
            refine in_eq ?_
            refine then_next ?_
            refine vc_region ?_
            refine vl_det (det_move rfl) rfl ?_
            refine vl_det (det_move rfl) rfl ?_
            refine vl_det (det_bstr Try.underlying28 Try.underlying5 Try.underlying9 rfl (by first | (exact Bor.own (by repeat (first | exact List.Mem.head _ | apply List.Mem.tail))) | (repeat (first | assumption | refine Bor.cons ?_)))) rfl ?_
            refine vl_push slT24 rfl rfl rfl rfl rfl (fun _ => rfl) (by repeat (first | exact .hd | apply Sel.tl)) (by omega) (by omega) ?_
            intro _ A60 c60
            refine vl_det (det_assign rfl) rfl ?_
            refine vl_end [(0, _), (3, _), (4, _)] ⟨rfl, rfl, rfl, trivial⟩ ?_
            refine in_normal ?_
            refine then_next ?_
            refine vc_region ?_
            refine vl_det (det_move rfl) rfl ?_
            refine vl_det (det_add rfl rfl (w_i64 (by omega) (by omega))) rfl ?_
            refine vl_det (det_assign rfl) rfl ?_
            refine vl_end [(0, _), (3, _), (4, _)] ⟨rfl, rfl, rfl, trivial⟩ ?_
            have hprev := hR.test hk
            have hst := hT.stop' hm hkm h46
            have hput := hR.put (c := l.getD k 0) (get_getD (by omega)) (fun e => h29 (.inl e)) (by rw [hprev]; exact decide_eq_false (fun e => h29 (.inr e)))
            rw [← hst] at hput
            refine in_loop_ ⟨_, by omega, k + 1, n + 1, OUT ++ [R], _, A60, c60, ⟨by omega, hput, by simp [hn]⟩, rfl, ⟨(by first | rfl | exact int_to (by omega)), (by first | rfl | exact int_to (by omega)), (by first | rfl | exact int_to (by omega)), trivial⟩, .skip (wk_own rfl (by simp [strs]) (.refl _))⟩
  · skip
    refine vc_exit ?_
    refine then_exit ?_
    refine loop_exit ?_
    refine in_eq ?_
    refine then_next ?_
    refine vc_seq ?_
    refine vc_region ?_
    refine vl_det (det_move rfl) rfl ?_
    refine vl_det (det_assign rfl) rfl ?_
    refine vl_end [(2, _)] ⟨rfl, trivial⟩ ?_
    refine then_next ?_
    refine vc_ret ?_
    refine ret1 rfl rfl ?_
    have hkl : k = l.length := by omega
    subst hkl
    have hd := hR.done
    subst hd
    subst hn
    exact ⟨A, c, rfl, rfl⟩
def aliveText : List UInt8 := [71, 69, 84, 32, 47, 97, 45, 98, 32, 72, 84, 84, 80, 32, 50, 48, 48]
def aliveWords : List (List UInt8) := [[103, 101, 116], [97], [98], [104, 116, 116, 112], [50, 48, 48]]
theorem alive_words : wordsL aliveText = aliveWords := by decide
theorem alive_d : Does Try.prog B w0 10 [] F (fun r L => r = .bool true ∧ L = F) := by
  have H := words_d (B := B) (w0 := w0) (F := F) aliveText (by decide)
  rw [alive_words] at H
  refine fn_walk Try.func10 4 rfl rfl rfl [] trivial ?_
  refine vc_seq ?_
  refine vc_region ?_
  refine vl_det (det_assign rfl) rfl ?_
  refine vl_end [] trivial ?_
  refine then_next ?_
  refine vc_seq ?_
  refine vc_region ?_
  refine vl_call co12 rfl (H) rfl ?_
  rintro _ _ ⟨A1, c1, rfl, rfl⟩
  refine vl_eff (eff_build_lit slT24 [_, _, _, _, _] rfl rfl (by first | exact bv_one _ | exact strs_one _ | exact ints_one _ _ | (simp; done) | (simp [Value.oneCell']; done) | assumption) (by omega) (by omega)) rfl ?_
  rintro _ _ ⟨A2, rfl, rfl⟩
  refine vl_call co11 rfl (same_d (l1 := aliveWords) (l2 := aliveWords) (by first | (exact Bor.own (by repeat (first | exact List.Mem.head _ | apply List.Mem.tail))) | (repeat (first | assumption | refine Bor.cons ?_))) (by first | (exact Bor.own (by repeat (first | exact List.Mem.head _ | apply List.Mem.tail))) | (repeat (first | assumption | refine Bor.cons ?_))) (by decide)) rfl ?_
  rintro _ _ ⟨rfl, rfl⟩
  refine vl_det (det_assign rfl) rfl ?_
  refine vl_end [(0, _)] ⟨rfl, trivial⟩ ?_
  refine then_next ?_
  refine vc_ret ?_
  refine ret_wk (.skip (.skip (.refl _))) ?_
  refine ret1 rfl rfl ?_
  exact ⟨rfl, rfl⟩
end Go.Proofs.Ytfooomfdokkiaaa
