/-
  words.letter and the document's Small, by frames. No condition.
-/
import Derived.Test.YtpamjobiohbibaaTypes
import Derived.Test.YtpamjobiohbibaaWordPure
namespace Go.Proofs.Ytpamjobiohbibaa
open Go.RowKit
set_option linter.unusedVariables false
variable {B : Nat} {w0 : World} {F : List Ch}
theorem small_cases (c : UInt8) : (97 ≤ (c.toNat : Int) ∧ (c.toNat : Int) ≤ 122 ∨ 48 ≤ (c.toNat : Int) ∧ (c.toNat : Int) ≤ 57) ∧ ((small c).toNat : Int) = (c.toNat : Int) ∧ small c ≠ 0 ∨
    (65 ≤ (c.toNat : Int) ∧ (c.toNat : Int) ≤ 90) ∧ ((small c).toNat : Int) = (c.toNat : Int) + 32 ∧ small c ≠ 0 ∨
    (¬ (97 ≤ (c.toNat : Int) ∧ (c.toNat : Int) ≤ 122 ∨ 48 ≤ (c.toNat : Int) ∧ (c.toNat : Int) ≤ 57) ∧ ¬ (65 ≤ (c.toNat : Int) ∧ (c.toNat : Int) ≤ 90)) ∧ small c = 0 := by
  by_cases h1 : 65 ≤ c.toNat ∧ c.toNat ≤ 90
  · have e : small c = c + 32 := if_pos h1
    have e2 : (c + 32).toNat = c.toNat + 32 := by
      rw [UInt8.toNat_add]
      show (c.toNat + 32) % 256 = _
      omega
    refine .inr (.inl ⟨by omega, by rw [e, e2]; omega, fun h => ?_⟩)
    rw [e] at h
    have := congrArg UInt8.toNat h
    rw [e2] at this
    simp at this
  · by_cases h2 : 97 ≤ c.toNat ∧ c.toNat ≤ 122 ∨ 48 ≤ c.toNat ∧ c.toNat ≤ 57
    · have e : small c = c := by unfold small; rw [if_neg h1, if_pos h2]
      refine .inl ⟨by omega, by rw [e], fun h => ?_⟩
      rw [e] at h
      rw [h] at h2
      simp at h2
    · have e : small c = 0 := by unfold small; rw [if_neg h1, if_neg h2]
      exact .inr (.inr ⟨by omega, e⟩)
theorem rsmall_d (c : UInt8) : Does Try.prog B w0 98 [.int .u8 c.toNat] F (fun r L => r = .int .u8 (small c).toNat ∧ L = F) := by
  have hs := small_cases c
  have hc := c.toNat_lt
  refine fn_walk Try.func98 26 rfl rfl rfl [(0, .int .u8 c.toNat)] ⟨⟨rfl, rfl⟩, trivial⟩ ?_
  refine vc_seq ?_
  refine vc_region ?_
  refine vl_det (det_assign rfl) rfl ?_
  refine vl_end [(0, _)] ⟨rfl, trivial⟩ ?_
  refine then_next ?_
  refine vc_seq ?_
  refine vc_seq ?_
  refine vc_region ?_
  refine vl_cut 14 16 [(0, _)] (97 ≤ (c.toNat : Int) ∧ (c.toNat : Int) ≤ 122 ∨ 48 ≤ (c.toNat : Int) ∧ (c.toNat : Int) ≤ 57) ⟨rfl, trivial⟩ ?_ ?_
  · skip
    refine vl_det (det_move rfl) rfl ?_
    refine vl_det (det_geq rfl rfl) rfl ?_
    refine vl_det (det_move rfl) rfl ?_
    refine vl_guardp rfl rfl rfl (fun h5 => ?_) (fun h5 => ?_)
    · skip
      refine vl_det (det_move rfl) rfl ?_
      refine vl_guard_t rfl rfl ?_
      refine vl_det (det_leq rfl rfl) rfl ?_
      refine vl_det (det_pick_t rfl rfl) rfl ?_
      refine vl_det (det_move rfl) rfl ?_
      refine vl_guardn rfl rfl rfl (fun h9 => ?_) (fun h9 => ?_)
      · skip
        refine vl_det (det_move rfl) rfl ?_
        refine vl_guard_t rfl rfl ?_
        refine vl_det (det_geq rfl rfl) rfl ?_
        refine vl_guard_t rfl rfl ?_
        refine vl_det (det_move rfl) rfl ?_
        refine vl_guardp rfl rfl rfl (fun h12 => ?_) (fun h12 => ?_)
        · skip
          refine vl_det (det_move rfl) rfl ?_
          refine vl_guard_t rfl rfl ?_
          refine vl_det (det_leq rfl rfl) rfl ?_
          refine vl_guard_t rfl rfl ?_
          refine vl_det (det_pick_t rfl rfl) rfl ?_
          refine vl_det (det_pick_f rfl rfl) rfl ?_
          exact vl_cut_end ⟨rfl, trivial⟩ (by first | rfl | exact bool_to_t (by first | omega | simp_all) | exact bool_to_f (by first | omega | simp_all) | exact bool_to (by first | omega | simp_all) | exact bool_to_b (by first | omega | simp_all))
        · skip
          refine vl_guard_f rfl rfl rfl rfl ?_
          refine vl_guard_t rfl rfl ?_
          refine vl_det (det_pick_f rfl rfl) rfl ?_
          refine vl_det (det_pick_f rfl rfl) rfl ?_
          exact vl_cut_end ⟨rfl, trivial⟩ (by first | rfl | exact bool_to_t (by first | omega | simp_all) | exact bool_to_f (by first | omega | simp_all) | exact bool_to (by first | omega | simp_all) | exact bool_to_b (by first | omega | simp_all))
      · skip
        refine vl_guard_f rfl rfl rfl rfl ?_
        refine vl_guard_f rfl rfl rfl rfl ?_
        refine vl_guard_u rfl rfl rfl ?_
        refine vl_guard_u rfl rfl rfl ?_
        refine vl_guard_f rfl rfl rfl rfl ?_
        refine vl_det (det_pick_t rfl rfl) rfl ?_
        exact vl_cut_end ⟨rfl, trivial⟩ (by first | rfl | exact bool_to_t (by first | omega | simp_all) | exact bool_to_f (by first | omega | simp_all) | exact bool_to (by first | omega | simp_all) | exact bool_to_b (by first | omega | simp_all))
    · skip
      refine vl_guard_f rfl rfl rfl rfl ?_
      refine vl_det (det_pick_f rfl rfl) rfl ?_
      refine vl_det (det_move rfl) rfl ?_
      refine vl_guard_t rfl rfl ?_
      refine vl_det (det_move rfl) rfl ?_
      refine vl_guard_t rfl rfl ?_
      refine vl_det (det_geq rfl rfl) rfl ?_
      refine vl_guard_t rfl rfl ?_
      refine vl_det (det_move rfl) rfl ?_
      refine vl_guardp rfl rfl rfl (fun h12 => ?_) (fun h12 => ?_)
      · skip
        refine vl_det (det_move rfl) rfl ?_
        refine vl_guard_t rfl rfl ?_
        refine vl_det (det_leq rfl rfl) rfl ?_
        refine vl_guard_t rfl rfl ?_
        refine vl_det (det_pick_t rfl rfl) rfl ?_
        refine vl_det (det_pick_f rfl rfl) rfl ?_
        exact vl_cut_end ⟨rfl, trivial⟩ (by first | rfl | exact bool_to_t (by first | omega | simp_all) | exact bool_to_f (by first | omega | simp_all) | exact bool_to (by first | omega | simp_all) | exact bool_to_b (by first | omega | simp_all))
      · skip
        refine vl_guard_f rfl rfl rfl rfl ?_
        refine vl_guard_t rfl rfl ?_
        refine vl_det (det_pick_f rfl rfl) rfl ?_
        refine vl_det (det_pick_f rfl rfl) rfl ?_
        exact vl_cut_end ⟨rfl, trivial⟩ (by first | rfl | exact bool_to_t (by first | omega | simp_all) | exact bool_to_f (by first | omega | simp_all) | exact bool_to (by first | omega | simp_all) | exact bool_to_b (by first | omega | simp_all))
  · skip
    refine vl_end [(0, _), (16, _)] ⟨rfl, rfl, trivial⟩ ?_
    refine then_next ?_
    refine vc_decideU rfl (fun h16 => ?_) (fun h16 => ?_)
    · skip
      refine vc_seq ?_
      refine vc_region ?_
      refine vl_det (det_move rfl) rfl ?_
      refine vl_det (det_assign rfl) rfl ?_
      refine vl_end [(2, _)] ⟨rfl, trivial⟩ ?_
      refine then_next ?_
      refine vc_ret ?_
      refine then_ret ?_
      refine ret1 rfl rfl ?_
      have e : ((small c).toNat : Int) = (c.toNat : Int) := by omega
      rw [e]; exact ⟨rfl, rfl⟩
    · skip
      refine vc_skip ?_
      refine then_next ?_
      refine vc_seq ?_
      refine vc_seq ?_
      refine vc_region ?_
      refine vl_cut 6 23 [(0, _)] (65 ≤ (c.toNat : Int) ∧ (c.toNat : Int) ≤ 90) ⟨rfl, trivial⟩ ?_ ?_
      · skip
        refine vl_det (det_move rfl) rfl ?_
        refine vl_det (det_geq rfl rfl) rfl ?_
        refine vl_det (det_move rfl) rfl ?_
        refine vl_guardp rfl rfl rfl (fun h20 => ?_) (fun h20 => ?_)
        · skip
          refine vl_det (det_move rfl) rfl ?_
          refine vl_guard_t rfl rfl ?_
          refine vl_det (det_leq rfl rfl) rfl ?_
          refine vl_det (det_pick_t rfl rfl) rfl ?_
          exact vl_cut_end ⟨rfl, trivial⟩ (by first | rfl | exact bool_to_t (by first | omega | simp_all) | exact bool_to_f (by first | omega | simp_all) | exact bool_to (by first | omega | simp_all) | exact bool_to_b (by first | omega | simp_all))
        · skip
          refine vl_guard_f rfl rfl rfl rfl ?_
          refine vl_det (det_pick_f rfl rfl) rfl ?_
          exact vl_cut_end ⟨rfl, trivial⟩ (by first | rfl | exact bool_to_t (by first | omega | simp_all) | exact bool_to_f (by first | omega | simp_all) | exact bool_to (by first | omega | simp_all) | exact bool_to_b (by first | omega | simp_all))
      · skip
        refine vl_end [(0, _), (23, _)] ⟨rfl, rfl, trivial⟩ ?_
        refine then_next ?_
        refine vc_decideU rfl (fun h23 => ?_) (fun h23 => ?_)
        · skip
          refine vc_seq ?_
          refine vc_region ?_
          refine vl_det (det_move rfl) rfl ?_
          refine vl_det (det_add rfl rfl (w_u8 (by omega) (by omega))) rfl ?_
          refine vl_det (det_assign rfl) rfl ?_
          refine vl_end [(2, _)] ⟨rfl, trivial⟩ ?_
          refine then_next ?_
          refine vc_ret ?_
          refine then_ret ?_
          refine ret1 rfl rfl ?_
          have e : ((small c).toNat : Int) = (c.toNat : Int) + 32 := by omega
          rw [e]; exact ⟨rfl, rfl⟩
        · skip
          refine vc_skip ?_
          refine then_next ?_
          refine vc_seq ?_
          refine vc_region ?_
          refine vl_det (det_assign rfl) rfl ?_
          refine vl_end [(2, _)] ⟨rfl, trivial⟩ ?_
          refine then_next ?_
          refine vc_ret ?_
          refine ret1 rfl rfl ?_
          have e : small c = 0 := by rcases hs with h | h | h <;> first | exact h.2 | (exfalso; omega)
          rw [e]; exact ⟨rfl, rfl⟩
theorem ret_letter {n : Int} {b b' : Bool} {c : UInt8} (h : n = ((small c).toNat : Int)) (hb : b = b') : Value.tuple #[.int .u8 n, .bool b] = .tuple #[.int .u8 (small c).toNat, .bool b'] := by rw [h, hb]
theorem letter_d (c : UInt8) : Does Try.prog B w0 58 [.int .u8 c.toNat] F (fun r L => r = .tuple #[.int .u8 (small c).toNat, .bool (decide (small c ≠ 0))] ∧ L = F) := by
  have hs := small_cases c
  have hc := c.toNat_lt
  refine fn_walk Try.func58 27 rfl rfl rfl [(0, .int .u8 c.toNat)] ⟨⟨rfl, rfl⟩, trivial⟩ ?_
  refine vc_seq ?_
  refine vc_region ?_
  refine vl_det (det_assign rfl) rfl ?_
  refine vl_det (det_assign rfl) rfl ?_
  refine vl_end [(0, _)] ⟨rfl, trivial⟩ ?_
  refine then_next ?_
  refine vc_seq ?_
  refine vc_block ?_
  refine vc_seq ?_
  refine vc_block ?_
  refine vc_seq ?_
  refine vc_block ?_
  refine vc_seq ?_
  refine vc_seq ?_
  refine vc_seq ?_
  refine vc_region ?_
  refine vl_cut 6 10 [(0, _)] (65 ≤ (c.toNat : Int) ∧ (c.toNat : Int) ≤ 90) ⟨rfl, trivial⟩ ?_ ?_
  · skip
    refine vl_det (det_move rfl) rfl ?_
    refine vl_det (det_geq rfl rfl) rfl ?_
    refine vl_det (det_move rfl) rfl ?_
    refine vl_guardp rfl rfl rfl (fun h7 => ?_) (fun h7 => ?_)
    · skip
      refine vl_det (det_move rfl) rfl ?_
      refine vl_guard_t rfl rfl ?_
      refine vl_det (det_leq rfl rfl) rfl ?_
      refine vl_det (det_pick_t rfl rfl) rfl ?_
      exact vl_cut_end ⟨rfl, trivial⟩ (by first | rfl | exact bool_to_t (by first | omega | simp_all) | exact bool_to_f (by first | omega | simp_all) | exact bool_to (by first | omega | simp_all) | exact bool_to_b (by first | omega | simp_all))
    · skip
      refine vl_guard_f rfl rfl rfl rfl ?_
      refine vl_det (det_pick_f rfl rfl) rfl ?_
      exact vl_cut_end ⟨rfl, trivial⟩ (by first | rfl | exact bool_to_t (by first | omega | simp_all) | exact bool_to_f (by first | omega | simp_all) | exact bool_to (by first | omega | simp_all) | exact bool_to_b (by first | omega | simp_all))
  · skip
    refine vl_det (det_assign rfl) rfl ?_
    refine vl_end [(0, _), (4, _)] ⟨rfl, rfl, trivial⟩ ?_
    refine then_next ?_
    refine vc_decideU rfl (fun h4 => ?_) (fun h4 => ?_)
    · skip
      refine vc_exit ?_
      refine then_exit ?_
      refine then_exit ?_
      refine in_eq ?_
      refine then_next ?_
      refine vc_region ?_
      refine vl_det (det_move rfl) rfl ?_
      refine vl_det (det_add rfl rfl (w_u8 (by omega) (by omega))) rfl ?_
      refine vl_det (det_assign rfl) rfl ?_
      refine vl_end [(0, _)] ⟨rfl, trivial⟩ ?_
      refine in_normal ?_
      refine then_next ?_
      refine vc_seq ?_
      refine vc_seq ?_
      refine vc_region ?_
      refine vl_det (det_move rfl) rfl ?_
      refine vl_det (det_assign rfl) rfl ?_
      refine vl_det (det_assign rfl) rfl ?_
      refine vl_end [(2, _), (3, _)] ⟨rfl, rfl, trivial⟩ ?_
      refine then_next ?_
      refine vc_ret ?_
      refine then_ret ?_
      refine in_ret ?_
      refine then_ret ?_
      refine ret2 rfl rfl rfl ?_
      have e : small c ≠ 0 := by rcases hs with h | h | h <;> first | exact h.2.2 | (exfalso; omega)
      exact ⟨ret_letter (by omega) (decide_eq_true e).symm, rfl⟩
    · skip
      refine vc_skip ?_
      refine then_next ?_
      refine vc_seq ?_
      refine vc_seq ?_
      refine vc_region ?_
      refine vl_cut 6 17 [(0, _)] (97 ≤ (c.toNat : Int) ∧ (c.toNat : Int) ≤ 122) ⟨rfl, trivial⟩ ?_ ?_
      · skip
        refine vl_det (det_move rfl) rfl ?_
        refine vl_det (det_geq rfl rfl) rfl ?_
        refine vl_det (det_move rfl) rfl ?_
        refine vl_guardp rfl rfl rfl (fun h14 => ?_) (fun h14 => ?_)
        · skip
          refine vl_det (det_move rfl) rfl ?_
          refine vl_guard_t rfl rfl ?_
          refine vl_det (det_leq rfl rfl) rfl ?_
          refine vl_det (det_pick_t rfl rfl) rfl ?_
          exact vl_cut_end ⟨rfl, trivial⟩ (by first | rfl | exact bool_to_t (by first | omega | simp_all) | exact bool_to_f (by first | omega | simp_all) | exact bool_to (by first | omega | simp_all) | exact bool_to_b (by first | omega | simp_all))
        · skip
          refine vl_guard_f rfl rfl rfl rfl ?_
          refine vl_det (det_pick_f rfl rfl) rfl ?_
          exact vl_cut_end ⟨rfl, trivial⟩ (by first | rfl | exact bool_to_t (by first | omega | simp_all) | exact bool_to_f (by first | omega | simp_all) | exact bool_to (by first | omega | simp_all) | exact bool_to_b (by first | omega | simp_all))
      · skip
        refine vl_det (det_assign rfl) rfl ?_
        refine vl_end [(0, _), (11, _)] ⟨rfl, rfl, trivial⟩ ?_
        refine then_next ?_
        refine vc_decideU rfl (fun h11 => ?_) (fun h11 => ?_)
        · skip
          refine vc_skip ?_
          refine then_next ?_
          refine vc_cond_t rfl ?_
          refine vc_exit ?_
          refine then_exit ?_
          refine in_exit rfl ?_
          refine then_exit ?_
          refine in_eq ?_
          refine then_next ?_
          refine vc_seq ?_
          refine vc_seq ?_
          refine vc_region ?_
          refine vl_det (det_move rfl) rfl ?_
          refine vl_det (det_assign rfl) rfl ?_
          refine vl_det (det_assign rfl) rfl ?_
          refine vl_end [(2, _), (3, _)] ⟨rfl, rfl, trivial⟩ ?_
          refine then_next ?_
          refine vc_ret ?_
          refine then_ret ?_
          refine in_ret ?_
          refine then_ret ?_
          refine ret2 rfl rfl rfl ?_
          have e : small c ≠ 0 := by rcases hs with h | h | h <;> first | exact h.2.2 | (exfalso; omega)
          exact ⟨ret_letter (by omega) (decide_eq_true e).symm, rfl⟩
        · skip
          refine vc_region ?_
          refine vl_cut 6 23 [(0, _)] (48 ≤ (c.toNat : Int) ∧ (c.toNat : Int) ≤ 57) ⟨rfl, trivial⟩ ?_ ?_
          · skip
            refine vl_det (det_move rfl) rfl ?_
            refine vl_det (det_geq rfl rfl) rfl ?_
            refine vl_det (det_move rfl) rfl ?_
            refine vl_guardp rfl rfl rfl (fun h20 => ?_) (fun h20 => ?_)
            · skip
              refine vl_det (det_move rfl) rfl ?_
              refine vl_guard_t rfl rfl ?_
              refine vl_det (det_leq rfl rfl) rfl ?_
              refine vl_det (det_pick_t rfl rfl) rfl ?_
              exact vl_cut_end ⟨rfl, trivial⟩ (by first | rfl | exact bool_to_t (by first | omega | simp_all) | exact bool_to_f (by first | omega | simp_all) | exact bool_to (by first | omega | simp_all) | exact bool_to_b (by first | omega | simp_all))
            · skip
              refine vl_guard_f rfl rfl rfl rfl ?_
              refine vl_det (det_pick_f rfl rfl) rfl ?_
              exact vl_cut_end ⟨rfl, trivial⟩ (by first | rfl | exact bool_to_t (by first | omega | simp_all) | exact bool_to_f (by first | omega | simp_all) | exact bool_to (by first | omega | simp_all) | exact bool_to_b (by first | omega | simp_all))
          · skip
            refine vl_det (det_assign rfl) rfl ?_
            refine vl_end [(0, _), (11, _)] ⟨rfl, rfl, trivial⟩ ?_
            refine then_next ?_
            refine vc_decideU rfl (fun h11 => ?_) (fun h11 => ?_)
            · skip
              refine vc_exit ?_
              refine then_exit ?_
              refine in_exit rfl ?_
              refine then_exit ?_
              refine in_eq ?_
              refine then_next ?_
              refine vc_seq ?_
              refine vc_seq ?_
              refine vc_region ?_
              refine vl_det (det_move rfl) rfl ?_
              refine vl_det (det_assign rfl) rfl ?_
              refine vl_det (det_assign rfl) rfl ?_
              refine vl_end [(2, _), (3, _)] ⟨rfl, rfl, trivial⟩ ?_
              refine then_next ?_
              refine vc_ret ?_
              refine then_ret ?_
              refine in_ret ?_
              refine then_ret ?_
              refine ret2 rfl rfl rfl ?_
              have e : small c ≠ 0 := by rcases hs with h | h | h <;> first | exact h.2.2 | (exfalso; omega)
              exact ⟨ret_letter (by omega) (decide_eq_true e).symm, rfl⟩
            · skip
              refine vc_skip ?_
              refine then_next ?_
              refine vc_exit ?_
              refine in_exit rfl ?_
              refine then_exit ?_
              refine in_exit rfl ?_
              refine then_exit ?_
              refine in_eq ?_
              refine then_next ?_
              refine vc_seq ?_
              refine vc_region ?_
              refine vl_det (det_assign rfl) rfl ?_
              refine vl_det (det_assign rfl) rfl ?_
              refine vl_end [(2, _), (3, _)] ⟨rfl, rfl, trivial⟩ ?_
              refine then_next ?_
              refine vc_ret ?_
              refine ret2 rfl rfl rfl ?_
              have e : small c = 0 := by rcases hs with h | h | h <;> first | exact h.2 | (exfalso; omega)
              rw [e]; exact ⟨rfl, rfl⟩
/-- all are letters -/
def AllS (l : List UInt8) : Prop := ∀ c ∈ l, small c ≠ 0
instance (l : List UInt8) : Decidable (AllS l) := inferInstanceAs (Decidable (∀ c ∈ l, small c ≠ 0))
theorem AllS.nil_ : AllS [] := by intro c h; cases h
theorem AllS.take {l : List UInt8} (h : AllS l) (k : Nat) : AllS (l.take k) := fun c hc => h c (List.mem_of_mem_take hc)
theorem AllS.step {l : List UInt8} {k : Nat} (h : AllS (l.take k)) (hk : k < l.length) (hs : small (l.getD k 0) ≠ 0) : AllS (l.take (k + 1)) := by
  rw [take_getD hk 0]
  intro c hc
  rcases List.mem_append.1 hc with hc | hc
  · exact h c hc
  · simp only [List.mem_singleton] at hc; rw [hc]; exact hs
theorem AllS.all {l : List UInt8} {k : Nat} (h : AllS (l.take k)) (hk : ¬ k < l.length) : AllS l := by rwa [List.take_of_length_le (by omega)] at h
theorem smalls_step {l : List UInt8} {k : Nat} (hk : k < l.length) : bv ((l.take k).map small) ++ [Value.int .u8 ((small (l.getD k 0)).toNat : Int)] = bv ((l.take (k + 1)).map small) := by
  rw [take_getD hk 0]; simp [bv]
/-- a text by itself -/
def oneL (s : List UInt8) : List UInt8 × Bool := if (1 ≤ s.length ∧ s.length ≤ 24) ∧ AllS s then (s.map small, true) else ([], false)
theorem oneL_yes {s : List UInt8} (h1 : 1 ≤ s.length ∧ s.length ≤ 24) (h2 : AllS s) : oneL s = (s.map small, true) := if_pos ⟨h1, h2⟩
theorem oneL_no {s : List UInt8} (h : ¬ ((1 ≤ s.length ∧ s.length ≤ 24) ∧ AllS s)) : oneL s = ([], false) := if_neg h
theorem u8_zero {x : UInt8} (h : (x.toNat : Int) = 0) : x = 0 := UInt8.toNat_inj.1 (by simp; omega)
theorem u8_some {x : UInt8} (h : ¬ (x.toNat : Int) = 0) : x ≠ 0 := fun e => h (by rw [e]; rfl)
/-- what stands behind an @ ahead -/
def bare (s : List UInt8) : List UInt8 := if s.head? = some 64 then s.drop 1 else s
def termL (s : List UInt8) : Bool := (oneL (bare s)).2 && decide ((oneL (bare s)).1 = bare s)
theorem bare_at {s : List UInt8} (h1 : 0 < s.length) (h2 : s.getD 0 0 = 64) : bare s = s.drop 1 := by
  rcases s with _ | ⟨c, r⟩
  · simp at h1
  · simp at h2; subst h2; rfl
theorem bare_not {s : List UInt8} (h : ¬ (0 < s.length ∧ s.getD 0 0 = 64)) : bare s = s := by
  rcases s with _ | ⟨c, r⟩
  · rfl
  · unfold bare
    rw [if_neg]
    simp at h ⊢
    exact h
end Go.Proofs.Ytpamjobiohbibaa
