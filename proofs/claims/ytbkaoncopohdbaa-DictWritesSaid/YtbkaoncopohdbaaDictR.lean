/-
  The document's dictionaries: May, Alike, Write; great. Condition: texts to 2^20.
-/
import Derived.Test.YtbkaoncopohdbaaDictV
import Derived.Test.YtbkaoncopohdbaaRNumD
namespace Go.Proofs.Ytbkaoncopohdbaa
open Go.RowKit
set_option linter.unusedVariables false
set_option maxRecDepth 20000
variable {B : Nat} {w0 : World} {F : List Ch} {A A1 A2 : Option Addr} {n c c1 c2 g : Nat}
theorem rlike_d (s r : Txt) (hs : s.length ≤ 1000000000000000) : Does Try.prog B w0 32 [.string ⟨s.toArray⟩, .string ⟨r.toArray⟩] F (fun v L => v = .int .i64 (lcp s r) ∧ L = F) := by
  have hle := (lcp_le s r).1
  refine fn_walk Try.func32 28 rfl rfl rfl [(0, .string ⟨s.toArray⟩), (1, .string ⟨r.toArray⟩)] ⟨⟨rfl, rfl⟩, ⟨rfl, rfl⟩, trivial⟩ ?_
  refine vc_seq ?_
  refine vc_region ?_
  refine vl_det (det_assign rfl) rfl ?_
  refine vl_end [(0, _), (1, _)] ⟨rfl, rfl, trivial⟩ ?_
  refine then_next ?_
  refine vc_seq ?_
  refine vc_seq ?_
  refine vc_region ?_
  refine vl_det (det_assign rfl) rfl ?_
  refine vl_end [(0, _), (1, _), (5, _)] ⟨rfl, rfl, rfl, trivial⟩ ?_
  refine then_next ?_
  refine vc_block ?_
  refine vc_loopJ (fun zf zL zm => ∃ (k : Nat), (k ≤ lcp s r) ∧ s.length - k = zm ∧ Sub zf [(0, .string ⟨s.toArray⟩), (1, .string ⟨r.toArray⟩), (5, .int .i64 k)] ∧ Wk zL (F)) _ ⟨0, Nat.zero_le _, rfl, ⟨(by first | rfl | exact int_to (by omega) | exact sl_to (by omega)), (by first | rfl | exact int_to (by omega) | exact sl_to (by omega)), (by first | rfl | exact int_to (by omega) | exact sl_to (by omega)), trivial⟩, .refl _⟩ ?_
  rintro _ _ _ ⟨k, hk, rfl, hs, hp⟩
  refine vc_weaken _ hs (vc_wk hp ?_)
  clear hs hp
  refine vc_seq ?_
  refine vc_seq ?_
  refine vc_region ?_
  refine vl_det (det_move rfl) rfl ?_
  refine vl_det (det_move rfl) rfl ?_
  refine vl_det (det_len_s Try.underlying9 rfl) rfl ?_
  refine vl_det (det_lss rfl rfl) rfl ?_
  refine vl_end [(0, _), (1, _), (5, _), (9, _)] ⟨rfl, rfl, rfl, rfl, trivial⟩ ?_
  refine then_next ?_
  refine vc_decideU rfl (fun h9 => ?_) (fun h9 => ?_)
  · skip
    refine vc_skip ?_
    refine then_next ?_
    refine vc_seq ?_
    refine vc_block ?_
    refine vc_seq ?_
    refine vq_region (by kernel_rfl) (by kernel_rfl) ?_
    refine vq_cut 13 24 [(0, _), (1, _), (5, _)] (k = lcp s r) ⟨rfl, rfl, rfl, trivial⟩ ?_ ?_
    · skip
      refine vq_det (det_move rfl) rfl ?_
      refine vq_det (det_move rfl) rfl ?_
      refine vq_det (det_len_s Try.underlying9 rfl) rfl ?_
      refine vq_det (det_geq rfl rfl) rfl ?_
      refine vq_det (det_move rfl) rfl ?_
      refine vq_guardn rfl rfl rfl (fun h16 => ?_) (fun h16 => ?_)
      · skip
        refine vq_det (det_move rfl) rfl ?_
        refine vq_guard_t rfl rfl ?_
        refine vq_det (det_move rfl) rfl ?_
        refine vq_guard_t rfl rfl ?_
        refine vq_det (det_at_str Try.underlying9 rfl rfl rfl (by omega)) rfl ?_
        refine vq_guard_t rfl rfl ?_
        refine vq_det (det_move rfl) rfl ?_
        refine vq_guard_t rfl rfl ?_
        refine vq_det (det_move rfl) rfl ?_
        refine vq_guard_t rfl rfl ?_
        refine vq_det (det_at_str Try.underlying9 rfl rfl rfl (by omega)) rfl ?_
        refine vq_guard_t rfl rfl ?_
        refine vq_det (det_neq rfl rfl) rfl ?_
        refine vq_det (det_pick_f rfl rfl) rfl ?_
        exact vq_cut_end ⟨rfl, rfl, rfl, trivial⟩ (by first | rfl | exact bool_to_t (by first | exact Nat.le_antisymm hk (Nat.le_of_not_lt fun h => absurd ((lcp_step s r k hk).1 h).1.2 (by omega)) | exact ⟨fun h => Nat.le_antisymm hk (Nat.le_of_not_lt fun h2 => h (by rw [((lcp_step s r k hk).1 h2).2])), fun h h2 => absurd ((lcp_step s r k hk).2 ⟨⟨by omega, by omega⟩, UInt8.toNat_inj.1 (by omega)⟩) (by omega)⟩) | exact bool_to_f (by first | exact Nat.le_antisymm hk (Nat.le_of_not_lt fun h => absurd ((lcp_step s r k hk).1 h).1.2 (by omega)) | exact ⟨fun h => Nat.le_antisymm hk (Nat.le_of_not_lt fun h2 => h (by rw [((lcp_step s r k hk).1 h2).2])), fun h h2 => absurd ((lcp_step s r k hk).2 ⟨⟨by omega, by omega⟩, UInt8.toNat_inj.1 (by omega)⟩) (by omega)⟩) | exact bool_to (by first | exact Nat.le_antisymm hk (Nat.le_of_not_lt fun h => absurd ((lcp_step s r k hk).1 h).1.2 (by omega)) | exact ⟨fun h => Nat.le_antisymm hk (Nat.le_of_not_lt fun h2 => h (by rw [((lcp_step s r k hk).1 h2).2])), fun h h2 => absurd ((lcp_step s r k hk).2 ⟨⟨by omega, by omega⟩, UInt8.toNat_inj.1 (by omega)⟩) (by omega)⟩) | exact bool_to_b (by first | exact Nat.le_antisymm hk (Nat.le_of_not_lt fun h => absurd ((lcp_step s r k hk).1 h).1.2 (by omega)) | exact ⟨fun h => Nat.le_antisymm hk (Nat.le_of_not_lt fun h2 => h (by rw [((lcp_step s r k hk).1 h2).2])), fun h h2 => absurd ((lcp_step s r k hk).2 ⟨⟨by omega, by omega⟩, UInt8.toNat_inj.1 (by omega)⟩) (by omega)⟩))
      · skip
        refine vq_guard_f rfl rfl rfl rfl ?_
        refine vq_guard_f rfl rfl rfl rfl ?_
        refine vq_guard_f rfl rfl rfl rfl ?_
        refine vq_guard_f rfl rfl rfl rfl ?_
        refine vq_guard_f rfl rfl rfl rfl ?_
        refine vq_guard_f rfl rfl rfl rfl ?_
        refine vq_det (det_pick_t rfl rfl) rfl ?_
        exact vq_cut_end ⟨rfl, rfl, rfl, trivial⟩ (by first | rfl | exact bool_to_t (by first | exact Nat.le_antisymm hk (Nat.le_of_not_lt fun h => absurd ((lcp_step s r k hk).1 h).1.2 (by omega)) | exact ⟨fun h => Nat.le_antisymm hk (Nat.le_of_not_lt fun h2 => h (by rw [((lcp_step s r k hk).1 h2).2])), fun h h2 => absurd ((lcp_step s r k hk).2 ⟨⟨by omega, by omega⟩, UInt8.toNat_inj.1 (by omega)⟩) (by omega)⟩) | exact bool_to_f (by first | exact Nat.le_antisymm hk (Nat.le_of_not_lt fun h => absurd ((lcp_step s r k hk).1 h).1.2 (by omega)) | exact ⟨fun h => Nat.le_antisymm hk (Nat.le_of_not_lt fun h2 => h (by rw [((lcp_step s r k hk).1 h2).2])), fun h h2 => absurd ((lcp_step s r k hk).2 ⟨⟨by omega, by omega⟩, UInt8.toNat_inj.1 (by omega)⟩) (by omega)⟩) | exact bool_to (by first | exact Nat.le_antisymm hk (Nat.le_of_not_lt fun h => absurd ((lcp_step s r k hk).1 h).1.2 (by omega)) | exact ⟨fun h => Nat.le_antisymm hk (Nat.le_of_not_lt fun h2 => h (by rw [((lcp_step s r k hk).1 h2).2])), fun h h2 => absurd ((lcp_step s r k hk).2 ⟨⟨by omega, by omega⟩, UInt8.toNat_inj.1 (by omega)⟩) (by omega)⟩) | exact bool_to_b (by first | exact Nat.le_antisymm hk (Nat.le_of_not_lt fun h => absurd ((lcp_step s r k hk).1 h).1.2 (by omega)) | exact ⟨fun h => Nat.le_antisymm hk (Nat.le_of_not_lt fun h2 => h (by rw [((lcp_step s r k hk).1 h2).2])), fun h h2 => absurd ((lcp_step s r k hk).2 ⟨⟨by omega, by omega⟩, UInt8.toNat_inj.1 (by omega)⟩) (by omega)⟩))
    · skip
      refine vq_end [(0, _), (1, _), (5, _), (24, _)] ⟨rfl, rfl, rfl, rfl, trivial⟩ ?_
      refine then_next ?_
      refine vc_decideU rfl (fun h24 => ?_) (fun h24 => ?_)
      · skip
        refine vc_seq ?_
        refine vc_region ?_
        refine vl_det (det_move rfl) rfl ?_
        refine vl_det (det_assign rfl) rfl ?_
        refine vl_end [(4, _)] ⟨rfl, trivial⟩ ?_
        refine then_next ?_
        refine vc_ret ?_
        refine in_ret ?_
        refine then_ret ?_
        refine loop_ret ?_
        refine in_ret ?_
        refine then_ret ?_
        refine ret1 rfl rfl ?_
        exact ⟨by rw [h24], rfl⟩
      · skip
        refine vc_skip ?_
        refine in_normal ?_
        refine then_next ?_
        refine vc_region ?_
        refine vl_det (det_move rfl) rfl ?_
        refine vl_det (det_add rfl rfl (w_i64 (by omega) (by omega))) rfl ?_
        refine vl_det (det_assign rfl) rfl ?_
        refine vl_end [(0, _), (1, _), (5, _)] ⟨rfl, rfl, rfl, trivial⟩ ?_
        refine in_loop_ ⟨_, by omega, k + 1, by omega, rfl, ⟨(by first | rfl | exact int_to (by omega) | exact sl_to (by omega)), (by first | rfl | exact int_to (by omega) | exact sl_to (by omega)), (by first | rfl | exact int_to (by omega) | exact sl_to (by omega)), trivial⟩, .refl _⟩
  · skip
    refine vc_exit ?_
    refine then_exit ?_
    refine loop_exit ?_
    refine in_eq ?_
    refine then_next ?_
    refine vc_seq ?_
    refine vc_region ?_
    refine vl_det (det_move rfl) rfl ?_
    refine vl_det (det_len_s Try.underlying9 rfl) rfl ?_
    refine vl_det (det_assign rfl) rfl ?_
    refine vl_end [(4, _)] ⟨rfl, trivial⟩ ?_
    refine then_next ?_
    refine vc_ret ?_
    refine ret1 rfl rfl ?_
    exact ⟨by rw [show s.length = lcp s r by omega], rfl⟩
/-- texts are too many or too long -/
def grT (l : List Txt) : Prop := 300 < l.length ∨ ∃ i, i < l.length ∧ 60 < (l.getD i []).length
instance (l : List Txt) : Decidable (grT l) := inferInstanceAs (Decidable (_ ∨ _))
theorem great_d {l : List Txt} (hb : Bor B w0 F 1 (.slice A l.length c) l.length (strs l)) (hl : l.length ≤ 9223372036854775807) :
    Does Try.prog B w0 10 [.slice A l.length c] F (fun r L => ∃ b, r = .bool b ∧ L = F ∧ (b = false → l.length ≤ 300 ∧ ∀ s ∈ l, s.length ≤ 60)) := by
  refine fn_walk Try.func10 19 rfl rfl rfl [(0, .slice A l.length c)] ⟨⟨rfl, rfl⟩, trivial⟩ ?_
  refine vc_seq ?_
  refine vc_region ?_
  refine vl_det (det_assign rfl) rfl ?_
  refine vl_end [(0, _)] ⟨rfl, trivial⟩ ?_
  refine then_next ?_
  refine vc_seq ?_
  refine vc_seq ?_
  refine vc_region ?_
  refine vl_det (det_move rfl) rfl ?_
  refine vl_det (det_len_sl Try.underlying22 rfl) rfl ?_
  refine vl_det (det_gtr rfl rfl) rfl ?_
  refine vl_end [(0, _), (6, _)] ⟨rfl, rfl, trivial⟩ ?_
  refine then_next ?_
  refine vc_decideU rfl (fun h6 => ?_) (fun h6 => ?_)
  · skip
    refine vc_seq ?_
    refine vc_region ?_
    refine vl_det (det_assign rfl) rfl ?_
    refine vl_end [(2, _)] ⟨rfl, trivial⟩ ?_
    refine then_next ?_
    refine vc_ret ?_
    refine then_ret ?_
    refine ret1 rfl rfl ?_
    exact ⟨true, rfl, rfl, fun h => by cases h⟩
  · skip
    refine vc_skip ?_
    refine then_next ?_
    refine vc_seq ?_
    refine vc_seq ?_
    refine vc_region ?_
    refine vl_det (det_assign rfl) rfl ?_
    refine vl_end [(0, _), (3, _)] ⟨rfl, rfl, trivial⟩ ?_
    refine then_next ?_
    refine vc_block ?_
    refine vc_loopJ (fun zf zL zm => ∃ (k : Nat), (k ≤ l.length ∧ ∀ i, i < k → (l.getD i []).length ≤ 60) ∧ l.length - k = zm ∧ Sub zf [(0, .slice A l.length c), (3, .int .i64 k)] ∧ Wk zL (F)) _ ⟨0, ⟨Nat.zero_le _, fun i h => absurd h (by omega)⟩, rfl, ⟨(by first | rfl | exact int_to (by omega) | exact sl_to (by omega)), (by first | rfl | exact int_to (by omega) | exact sl_to (by omega)), trivial⟩, .refl _⟩ ?_
    rintro _ _ _ ⟨k, ⟨hk, hm⟩, rfl, hs, hp⟩
    refine vc_weaken _ hs (vc_wk hp ?_)
    clear hs hp
    refine vc_seq ?_
    refine vc_seq ?_
    refine vc_region ?_
    refine vl_det (det_move rfl) rfl ?_
    refine vl_det (det_move rfl) rfl ?_
    refine vl_det (det_len_sl Try.underlying22 rfl) rfl ?_
    refine vl_det (det_lss rfl rfl) rfl ?_
    refine vl_end [(0, _), (3, _), (10, _)] ⟨rfl, rfl, rfl, trivial⟩ ?_
    refine then_next ?_
    refine vc_decideU rfl (fun h10 => ?_) (fun h10 => ?_)
    · skip
      refine vc_skip ?_
      refine then_next ?_
      refine vc_seq ?_
      refine vc_block ?_
      refine vc_seq ?_
      refine vc_region ?_
      refine vl_det (det_move rfl) rfl ?_
      refine vl_det (det_move rfl) rfl ?_
      refine vl_det (det_indexAddr (size := 1) Try.underlying22 (by kernel_rfl) rfl rfl rfl (by omega) (by first | (exact Bor.own (by repeat (first | exact List.Mem.head _ | apply List.Mem.tail))) | (repeat (first | assumption | apply Bor.cons)))) rfl ?_
      refine vl_det (det_load_str (by kernel_rfl) rfl (by first | (exact Bor.own (by repeat (first | exact List.Mem.head _ | apply List.Mem.tail))) | (repeat (first | assumption | apply Bor.cons))) (by omega)) rfl ?_
      refine vl_det (det_len_s Try.underlying9 rfl) rfl ?_
      refine vl_det (det_gtr rfl rfl) rfl ?_
      refine vl_end [(0, _), (3, _), (18, _)] ⟨rfl, rfl, rfl, trivial⟩ ?_
      refine then_next ?_
      refine vc_decideU rfl (fun h18 => ?_) (fun h18 => ?_)
      · skip
        refine vc_seq ?_
        refine vc_region ?_
        refine vl_det (det_assign rfl) rfl ?_
        refine vl_end [(2, _)] ⟨rfl, trivial⟩ ?_
        refine then_next ?_
        refine vc_ret ?_
        refine in_ret ?_
        refine then_ret ?_
        refine loop_ret ?_
        refine in_ret ?_
        refine then_ret ?_
        refine ret1 rfl rfl ?_
        exact ⟨true, rfl, rfl, fun h => by cases h⟩
      · skip
        refine vc_skip ?_
        refine in_normal ?_
        refine then_next ?_
        refine vc_region ?_
        refine vl_det (det_move rfl) rfl ?_
        refine vl_det (det_add rfl rfl (w_i64 (by omega) (by omega))) rfl ?_
        refine vl_det (det_assign rfl) rfl ?_
        refine vl_end [(0, _), (3, _)] ⟨rfl, rfl, trivial⟩ ?_
        refine in_loop_ ⟨_, by omega, k + 1, ⟨by omega, fun i hi => by
          by_cases e : i = k
          · rw [e]; omega
          · exact hm i (by omega)⟩, rfl, ⟨(by first | rfl | exact int_to (by omega) | exact sl_to (by omega)), (by first | rfl | exact int_to (by omega) | exact sl_to (by omega)), trivial⟩, .refl _⟩
    · skip
      refine vc_exit ?_
      refine then_exit ?_
      refine loop_exit ?_
      refine in_eq ?_
      refine then_next ?_
      refine vc_seq ?_
      refine vc_region ?_
      refine vl_det (det_assign rfl) rfl ?_
      refine vl_end [(2, _)] ⟨rfl, trivial⟩ ?_
      refine then_next ?_
      refine vc_ret ?_
      refine ret1 rfl rfl ?_
      exact ⟨false, rfl, rfl, fun _ => ⟨by omega, fun s hs => by
        obtain ⟨i, hi, rfl⟩ := List.getElem_of_mem hs
        have := hm i (by omega)
        rwa [List.getD_eq_getElem?_getD, List.getElem?_eq_getElem hi] at this⟩⟩
theorem may0 {l : List Txt} {k : Nat} (h0 : k = 0) (h1 : 1 ≤ (l.getD k []).length) (h2 : (l.getD k []).length ≤ 25) : mayT (prvT l k) (l.getD k []) := by
  subst h0
  have hne : l.getD 0 [] ≠ [] := fun e => by rw [e] at h1; simp at h1
  exact ⟨hne, h2, not_leT_nil hne⟩
theorem may1 {l : List Txt} {k : Nat} (h0 : 0 < k) (h1 : 1 ≤ (l.getD k []).length) (h2 : (l.getD k []).length ≤ 25) : leT (l.getD k []) (l.getD (k - 1) []) ↔ ¬ mayT (prvT l k) (l.getD k []) := by
  have hne : l.getD k [] ≠ [] := fun e => by rw [e] at h1; simp at h1
  have hp : prvT l k = l.getD (k - 1) [] := by unfold prvT; rw [if_neg (by omega)]
  rw [hp]
  exact ⟨fun h hm => hm.2.2 h, fun h => Classical.byContradiction fun hn => h ⟨hne, h2, hn⟩⟩
theorem rmayT_d {l : List Txt} (hb : Bor B w0 F 1 (.slice A l.length c) l.length (strs l)) (hl : l.length ≤ 1000000000000000) :
    Does Try.prog B w0 21 [.slice A l.length c] F (fun r L => r = .bool (decide (RisT l)) ∧ L = F) := by
  refine fn_walk Try.func21 43 rfl rfl rfl [(0, .slice A l.length c)] ⟨⟨rfl, rfl⟩, trivial⟩ ?_
  refine vc_seq ?_
  refine vc_region ?_
  refine vl_det (det_assign rfl) rfl ?_
  refine vl_end [(0, _)] ⟨rfl, trivial⟩ ?_
  refine then_next ?_
  refine vc_seq ?_
  refine vc_seq ?_
  refine vc_region ?_
  refine vl_det (det_move rfl) rfl ?_
  refine vl_det (det_len_sl Try.underlying22 rfl) rfl ?_
  refine vl_det (det_gtr rfl rfl) rfl ?_
  refine vl_end [(0, _), (6, _)] ⟨rfl, rfl, trivial⟩ ?_
  refine then_next ?_
  refine vc_decideU rfl (fun h6 => ?_) (fun h6 => ?_)
  · skip
    refine vc_seq ?_
    refine vc_region ?_
    refine vl_det (det_assign rfl) rfl ?_
    refine vl_end [(2, _)] ⟨rfl, trivial⟩ ?_
    refine then_next ?_
    refine vc_ret ?_
    refine then_ret ?_
    refine ret1 rfl rfl ?_
    exact ⟨by rw [decide_eq_false (fun h => by have := h.2; omega)], rfl⟩
  · skip
    refine vc_skip ?_
    refine then_next ?_
    refine vc_seq ?_
    refine vc_seq ?_
    refine vc_region ?_
    refine vl_det (det_assign rfl) rfl ?_
    refine vl_end [(0, _), (3, _)] ⟨rfl, rfl, trivial⟩ ?_
    refine then_next ?_
    refine vc_block ?_
    refine vc_loopJ (fun zf zL zm => ∃ (k : Nat), (k ≤ l.length ∧ ∀ i, i < k → mayT (prvT l i) (l.getD i [])) ∧ l.length - k = zm ∧ Sub zf [(0, .slice A l.length c), (3, .int .i64 k)] ∧ Wk zL (F)) _ ⟨0, ⟨Nat.zero_le _, fun i h => absurd h (by omega)⟩, rfl, ⟨(by first | rfl | exact int_to (by omega) | exact sl_to (by omega)), (by first | rfl | exact int_to (by omega) | exact sl_to (by omega)), trivial⟩, .refl _⟩ ?_
    rintro _ _ _ ⟨k, ⟨hk, hm⟩, rfl, hs, hp⟩
    refine vc_weaken _ hs (vc_wk hp ?_)
    clear hs hp
    refine vc_seq ?_
    refine vc_seq ?_
    refine vc_region ?_
    refine vl_det (det_move rfl) rfl ?_
    refine vl_det (det_move rfl) rfl ?_
    refine vl_det (det_len_sl Try.underlying22 rfl) rfl ?_
    refine vl_det (det_lss rfl rfl) rfl ?_
    refine vl_end [(0, _), (3, _), (10, _)] ⟨rfl, rfl, rfl, trivial⟩ ?_
    refine then_next ?_
    refine vc_decideU rfl (fun h10 => ?_) (fun h10 => ?_)
    · skip
      refine vc_skip ?_
      refine then_next ?_
      refine vc_seq ?_
      refine vc_block ?_
      refine vc_seq ?_
      refine vq_region (by kernel_rfl) (by kernel_rfl) ?_
      refine vq_cut 30 42 [(0, _), (3, _)] (¬ mayT (prvT l k) (l.getD k [])) ⟨rfl, rfl, trivial⟩ ?_ ?_
      · skip
        refine vq_det (det_move rfl) rfl ?_
        refine vq_det (det_move rfl) rfl ?_
        refine vq_det (det_indexAddr (size := 1) Try.underlying22 (by kernel_rfl) rfl rfl rfl (by omega) (by first | (exact Bor.own (by repeat (first | exact List.Mem.head _ | apply List.Mem.tail))) | (repeat (first | assumption | apply Bor.cons)))) rfl ?_
        refine vq_det (det_load_str (by kernel_rfl) rfl (by first | (exact Bor.own (by repeat (first | exact List.Mem.head _ | apply List.Mem.tail))) | (repeat (first | assumption | apply Bor.cons))) (by omega)) rfl ?_
        refine vq_det (det_len_s Try.underlying9 rfl) rfl ?_
        refine vq_det (det_lss rfl rfl) rfl ?_
        refine vq_det (det_move rfl) rfl ?_
        refine vq_guardn rfl rfl rfl (fun h19 => ?_) (fun h19 => ?_)
        · skip
          refine vq_det (det_move rfl) rfl ?_
          refine vq_guard_t rfl rfl ?_
          refine vq_det (det_move rfl) rfl ?_
          refine vq_guard_t rfl rfl ?_
          refine vq_det (det_indexAddr (size := 1) Try.underlying22 (by kernel_rfl) rfl rfl rfl (by omega) (by first | (exact Bor.own (by repeat (first | exact List.Mem.head _ | apply List.Mem.tail))) | (repeat (first | assumption | apply Bor.cons)))) rfl ?_
          refine vq_guard_t rfl rfl ?_
          refine vq_det (det_load_str (by kernel_rfl) rfl (by first | (exact Bor.own (by repeat (first | exact List.Mem.head _ | apply List.Mem.tail))) | (repeat (first | assumption | apply Bor.cons))) (by omega)) rfl ?_
          refine vq_guard_t rfl rfl ?_
          refine vq_det (det_len_s Try.underlying9 rfl) rfl ?_
          refine vq_guard_t rfl rfl ?_
          refine vq_det (det_gtr rfl rfl) rfl ?_
          refine vq_det (det_pick_f rfl rfl) rfl ?_
          refine vq_det (det_move rfl) rfl ?_
          refine vq_guardn rfl rfl rfl (fun h27 => ?_) (fun h27 => ?_)
          · skip
            refine vq_det (det_move rfl) rfl ?_
            refine vq_guard_t rfl rfl ?_
            refine vq_det (det_gtr rfl rfl) rfl ?_
            refine vq_guard_t rfl rfl ?_
            refine vq_det (det_move rfl) rfl ?_
            refine vq_guardp rfl rfl rfl (fun h30 => ?_) (fun h30 => ?_)
            · skip
              refine vq_det (det_move rfl) rfl ?_
              refine vq_guard_t rfl rfl ?_
              refine vq_det (det_move rfl) rfl ?_
              refine vq_guard_t rfl rfl ?_
              refine vq_det (det_indexAddr (size := 1) Try.underlying22 (by kernel_rfl) rfl rfl rfl (by omega) (by first | (exact Bor.own (by repeat (first | exact List.Mem.head _ | apply List.Mem.tail))) | (repeat (first | assumption | apply Bor.cons)))) rfl ?_
              refine vq_guard_t rfl rfl ?_
              refine vq_det (det_load_str (by kernel_rfl) rfl (by first | (exact Bor.own (by repeat (first | exact List.Mem.head _ | apply List.Mem.tail))) | (repeat (first | assumption | apply Bor.cons))) (by omega)) rfl ?_
              refine vq_guard_t rfl rfl ?_
              refine vq_det (det_move rfl) rfl ?_
              refine vq_guard_t rfl rfl ?_
              refine vq_det (det_move rfl) rfl ?_
              refine vq_guard_t rfl rfl ?_
              refine vq_det (det_sub rfl rfl (w_i64 (by omega) (by omega))) rfl ?_
              refine vq_guard_t rfl rfl ?_
              refine vq_det (det_indexAddr (i := k - 1) (size := 1) Try.underlying22 (by kernel_rfl) rfl rfl (by omega) (by omega) (by first | (exact Bor.own (by repeat (first | exact List.Mem.head _ | apply List.Mem.tail))) | (repeat (first | assumption | apply Bor.cons)))) rfl ?_
              refine vq_guard_t rfl rfl ?_
              refine vq_det (det_load_str (b := l) (j := k - 1) (by kernel_rfl) rfl (by first | (exact Bor.own (by repeat (first | exact List.Mem.head _ | apply List.Mem.tail))) | (repeat (first | assumption | apply Bor.cons))) (by omega)) rfl ?_
              refine vq_guard_t rfl rfl ?_
              refine vq_det (det_s_leqD rfl rfl) rfl ?_
              refine vq_guard_t rfl rfl ?_
              refine vq_det (det_pick_t rfl rfl) rfl ?_
              refine vq_det (det_pick_f rfl rfl) rfl ?_
              exact vq_cut_end ⟨rfl, rfl, trivial⟩ (by first | rfl | exact bool_to_t (by first | exact fun h => h.1 (List.length_eq_zero_iff.1 (by omega)) | exact fun h => absurd h.2.1 (by omega) | exact fun h => h (may0 (by omega) (by omega) (by omega)) | exact may1 (by omega) (by omega) (by omega)) | exact bool_to_f (by first | exact fun h => h.1 (List.length_eq_zero_iff.1 (by omega)) | exact fun h => absurd h.2.1 (by omega) | exact fun h => h (may0 (by omega) (by omega) (by omega)) | exact may1 (by omega) (by omega) (by omega)) | exact bool_to (by first | exact fun h => h.1 (List.length_eq_zero_iff.1 (by omega)) | exact fun h => absurd h.2.1 (by omega) | exact fun h => h (may0 (by omega) (by omega) (by omega)) | exact may1 (by omega) (by omega) (by omega)) | exact bool_to_b (by first | exact fun h => h.1 (List.length_eq_zero_iff.1 (by omega)) | exact fun h => absurd h.2.1 (by omega) | exact fun h => h (may0 (by omega) (by omega) (by omega)) | exact may1 (by omega) (by omega) (by omega)))
            · skip
              refine vq_guard_f rfl rfl rfl rfl ?_
              refine vq_guard_f rfl rfl rfl rfl ?_
              refine vq_guard_f rfl rfl rfl rfl ?_
              refine vq_guard_f rfl rfl rfl rfl ?_
              refine vq_guard_f rfl rfl rfl rfl ?_
              refine vq_guard_f rfl rfl rfl rfl ?_
              refine vq_guard_f rfl rfl rfl rfl ?_
              refine vq_guard_f rfl rfl rfl rfl ?_
              refine vq_guard_f rfl rfl rfl rfl ?_
              refine vq_guard_t rfl rfl ?_
              refine vq_det (det_pick_f rfl rfl) rfl ?_
              refine vq_det (det_pick_f rfl rfl) rfl ?_
              exact vq_cut_end ⟨rfl, rfl, trivial⟩ (by first | rfl | exact bool_to_t (by first | exact fun h => h.1 (List.length_eq_zero_iff.1 (by omega)) | exact fun h => absurd h.2.1 (by omega) | exact fun h => h (may0 (by omega) (by omega) (by omega)) | exact may1 (by omega) (by omega) (by omega)) | exact bool_to_f (by first | exact fun h => h.1 (List.length_eq_zero_iff.1 (by omega)) | exact fun h => absurd h.2.1 (by omega) | exact fun h => h (may0 (by omega) (by omega) (by omega)) | exact may1 (by omega) (by omega) (by omega)) | exact bool_to (by first | exact fun h => h.1 (List.length_eq_zero_iff.1 (by omega)) | exact fun h => absurd h.2.1 (by omega) | exact fun h => h (may0 (by omega) (by omega) (by omega)) | exact may1 (by omega) (by omega) (by omega)) | exact bool_to_b (by first | exact fun h => h.1 (List.length_eq_zero_iff.1 (by omega)) | exact fun h => absurd h.2.1 (by omega) | exact fun h => h (may0 (by omega) (by omega) (by omega)) | exact may1 (by omega) (by omega) (by omega)))
          · skip
            refine vq_guard_f rfl rfl rfl rfl ?_
            refine vq_guard_f rfl rfl rfl rfl ?_
            refine vq_guard_u rfl rfl rfl ?_
            refine vq_guard_u rfl rfl rfl ?_
            refine vq_guard_u rfl rfl rfl ?_
            refine vq_guard_u rfl rfl rfl ?_
            refine vq_guard_u rfl rfl rfl ?_
            refine vq_guard_u rfl rfl rfl ?_
            refine vq_guard_u rfl rfl rfl ?_
            refine vq_guard_u rfl rfl rfl ?_
            refine vq_guard_u rfl rfl rfl ?_
            refine vq_guard_u rfl rfl rfl ?_
            refine vq_guard_f rfl rfl rfl rfl ?_
            refine vq_det (det_pick_t rfl rfl) rfl ?_
            exact vq_cut_end ⟨rfl, rfl, trivial⟩ (by first | rfl | exact bool_to_t (by first | exact fun h => h.1 (List.length_eq_zero_iff.1 (by omega)) | exact fun h => absurd h.2.1 (by omega) | exact fun h => h (may0 (by omega) (by omega) (by omega)) | exact may1 (by omega) (by omega) (by omega)) | exact bool_to_f (by first | exact fun h => h.1 (List.length_eq_zero_iff.1 (by omega)) | exact fun h => absurd h.2.1 (by omega) | exact fun h => h (may0 (by omega) (by omega) (by omega)) | exact may1 (by omega) (by omega) (by omega)) | exact bool_to (by first | exact fun h => h.1 (List.length_eq_zero_iff.1 (by omega)) | exact fun h => absurd h.2.1 (by omega) | exact fun h => h (may0 (by omega) (by omega) (by omega)) | exact may1 (by omega) (by omega) (by omega)) | exact bool_to_b (by first | exact fun h => h.1 (List.length_eq_zero_iff.1 (by omega)) | exact fun h => absurd h.2.1 (by omega) | exact fun h => h (may0 (by omega) (by omega) (by omega)) | exact may1 (by omega) (by omega) (by omega)))
        · skip
          refine vq_guard_f rfl rfl rfl rfl ?_
          refine vq_guard_f rfl rfl rfl rfl ?_
          refine vq_guard_f rfl rfl rfl rfl ?_
          refine vq_guard_f rfl rfl rfl rfl ?_
          refine vq_guard_f rfl rfl rfl rfl ?_
          refine vq_det (det_pick_t rfl rfl) rfl ?_
          refine vq_det (det_move rfl) rfl ?_
          refine vq_guard_f rfl rfl rfl rfl ?_
          refine vq_guard_f rfl rfl rfl rfl ?_
          refine vq_guard_f rfl rfl rfl rfl ?_
          refine vq_guard_u rfl rfl rfl ?_
          refine vq_guard_u rfl rfl rfl ?_
          refine vq_guard_u rfl rfl rfl ?_
          refine vq_guard_u rfl rfl rfl ?_
          refine vq_guard_u rfl rfl rfl ?_
          refine vq_guard_u rfl rfl rfl ?_
          refine vq_guard_u rfl rfl rfl ?_
          refine vq_guard_u rfl rfl rfl ?_
          refine vq_guard_u rfl rfl rfl ?_
          refine vq_guard_u rfl rfl rfl ?_
          refine vq_guard_f rfl rfl rfl rfl ?_
          refine vq_det (det_pick_t rfl rfl) rfl ?_
          exact vq_cut_end ⟨rfl, rfl, trivial⟩ (by first | rfl | exact bool_to_t (by first | exact fun h => h.1 (List.length_eq_zero_iff.1 (by omega)) | exact fun h => absurd h.2.1 (by omega) | exact fun h => h (may0 (by omega) (by omega) (by omega)) | exact may1 (by omega) (by omega) (by omega)) | exact bool_to_f (by first | exact fun h => h.1 (List.length_eq_zero_iff.1 (by omega)) | exact fun h => absurd h.2.1 (by omega) | exact fun h => h (may0 (by omega) (by omega) (by omega)) | exact may1 (by omega) (by omega) (by omega)) | exact bool_to (by first | exact fun h => h.1 (List.length_eq_zero_iff.1 (by omega)) | exact fun h => absurd h.2.1 (by omega) | exact fun h => h (may0 (by omega) (by omega) (by omega)) | exact may1 (by omega) (by omega) (by omega)) | exact bool_to_b (by first | exact fun h => h.1 (List.length_eq_zero_iff.1 (by omega)) | exact fun h => absurd h.2.1 (by omega) | exact fun h => h (may0 (by omega) (by omega) (by omega)) | exact may1 (by omega) (by omega) (by omega)))
      · skip
        refine vq_end [(0, _), (3, _), (42, _)] ⟨rfl, rfl, rfl, trivial⟩ ?_
        refine then_next ?_
        refine vc_decideU rfl (fun h42 => ?_) (fun h42 => ?_)
        · skip
          refine vc_seq ?_
          refine vc_region ?_
          refine vl_det (det_assign rfl) rfl ?_
          refine vl_end [(2, _)] ⟨rfl, trivial⟩ ?_
          refine then_next ?_
          refine vc_ret ?_
          refine in_ret ?_
          refine then_ret ?_
          refine loop_ret ?_
          refine in_ret ?_
          refine then_ret ?_
          refine ret1 rfl rfl ?_
          exact ⟨by rw [decide_eq_false (fun h => h42 (h.1 k (by omega)))], rfl⟩
        · skip
          refine vc_skip ?_
          refine in_normal ?_
          refine then_next ?_
          refine vc_region ?_
          refine vl_det (det_move rfl) rfl ?_
          refine vl_det (det_add rfl rfl (w_i64 (by omega) (by omega))) rfl ?_
          refine vl_det (det_assign rfl) rfl ?_
          refine vl_end [(0, _), (3, _)] ⟨rfl, rfl, trivial⟩ ?_
          refine in_loop_ ⟨_, by omega, k + 1, ⟨by omega, fun i hi => by
            by_cases e : i = k
            · rw [e]; exact Classical.not_not.1 h42
            · exact hm i (by omega)⟩, rfl, ⟨(by first | rfl | exact int_to (by omega) | exact sl_to (by omega)), (by first | rfl | exact int_to (by omega) | exact sl_to (by omega)), trivial⟩, .refl _⟩
    · skip
      refine vc_exit ?_
      refine then_exit ?_
      refine loop_exit ?_
      refine in_eq ?_
      refine then_next ?_
      refine vc_seq ?_
      refine vc_region ?_
      refine vl_det (det_assign rfl) rfl ?_
      refine vl_end [(2, _)] ⟨rfl, trivial⟩ ?_
      refine then_next ?_
      refine vc_ret ?_
      refine ret1 rfl rfl ?_
      have e : k = l.length := by omega
      subst e
      exact ⟨by rw [decide_eq_true ⟨hm, by omega⟩], rfl⟩
end Go.Proofs.Ytbkaoncopohdbaa
