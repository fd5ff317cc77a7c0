/-
  words.letter and the document's Small, by frames. No condition.
-/
import Derived.Test.YtfooomfdokkiaaaTypes
import Derived.Test.YtfooomfdokkiaaaWordPure
namespace Go.Proofs.Ytfooomfdokkiaaa
open Go.RowKit
set_option linter.unusedVariables false
variable {B : Nat} {w0 : World} {F : List Ch}
theorem small_cases (c : UInt8) : (97 ≤ (c.toNat : Int) ∧ (c.toNat : Int) ≤ 122 ∨ 48 ≤ (c.toNat : Int) ∧ (c.toNat : Int) ≤ 57) ∧ ((small c).toNat : Int) = (c.toNat : Int) ∧ small c ≠ 0 ∨
    (65 ≤ (c.toNat : Int) ∧ (c.toNat : Int) ≤ 90) ∧ ((small c).toNat : Int) = (c.toNat : Int) + 32 ∧ small c ≠ 0 ∨
    (¬ (97 ≤ (c.toNat : Int) ∧ (c.toNat : Int) ≤ 122 ∨ 48 ≤ (c.toNat : Int) ∧ (c.toNat : Int) ≤ 57) ∧ ¬ (65 ≤ (c.toNat : Int) ∧ (c.toNat : Int) ≤ 90)) ∧ small c = 0 := by
  by_cases h1 : 65 ≤ c.toNat ∧ c.toNat ≤ 90
  · have e : small c = c + 32 := if_pos h1
    have e2 : (c + 32).toNat = c.toNat + 32 := by
      rw [UInt8.toNat_add]
      show (c.toNat + 32) % 256 = _
      omega
    refine .inr (.inl ⟨by omega, by rw [e, e2]; omega, fun h => ?_⟩)
    rw [e] at h
    have := congrArg UInt8.toNat h
    rw [e2] at this
    simp at this
  · by_cases h2 : 97 ≤ c.toNat ∧ c.toNat ≤ 122 ∨ 48 ≤ c.toNat ∧ c.toNat ≤ 57
    · have e : small c = c := by unfold small; rw [if_neg h1, if_pos h2]
      refine .inl ⟨by omega, by rw [e], fun h => ?_⟩
      rw [e] at h
      rw [h] at h2
      simp at h2
    · have e : small c = 0 := by unfold small; rw [if_neg h1, if_neg h2]
      exact .inr (.inr ⟨by omega, e⟩)
theorem rsmall_d (c : UInt8) : Does Try.prog B w0 14 [.int .u8 c.toNat] F (fun r L => r = .int .u8 (small c).toNat ∧ L = F) := by
  have hs := small_cases c
  have hc := c.toNat_lt
  refine fn_walk Try.func14 26 rfl rfl rfl [(0, .int .u8 c.toNat)] ⟨⟨rfl, rfl⟩, trivial⟩ ?_
  refine vc_seq ?_
  refine vc_region ?_
  refine vl_det (det_assign rfl) rfl ?_
  refine vl_end [(0, _)] ⟨rfl, trivial⟩ ?_
  refine then_next ?_
  refine vc_seq ?_
  refine vc_seq ?_
  refine vc_region ?_
  refine vl_cut 14 16 [(0, _)] (97 ≤ (c.toNat : Int) ∧ (c.toNat : Int) ≤ 122 ∨ 48 ≤ (c.toNat : Int) ∧ (c.toNat : Int) ≤ 57) ⟨rfl, trivial⟩ ?_ ?_
  · skip
    refine vl_det (det_move rfl) rfl ?_
    refine vl_det (det_geq rfl rfl) rfl ?_
    refine vl_det (det_move rfl) rfl ?_
    refine vl_guardp rfl rfl rfl (fun h5 => ?_) (fun h5 => ?_)
    · skip
      refine vl_det (det_move rfl) rfl ?_
      refine vl_guard_t rfl rfl ?_
      refine vl_det (det_leq rfl rfl) rfl ?_
      refine vl_det (det_pick_t rfl rfl) rfl ?_
      refine vl_det (det_move rfl) rfl ?_
      refine vl_guardn rfl rfl rfl (fun h9 => ?_) (fun h9 => ?_)
      · skip
        refine vl_det (det_move rfl) rfl ?_
        refine vl_guard_t rfl rfl ?_
        refine vl_det (det_geq rfl rfl) rfl ?_
        refine vl_guard_t rfl rfl ?_
        refine vl_det (det_move rfl) rfl ?_
        refine vl_guardp rfl rfl rfl (fun h12 => ?_) (fun h12 => ?_)
        · skip
          refine vl_det (det_move rfl) rfl ?_
          refine vl_guard_t rfl rfl ?_
          refine vl_det (det_leq rfl rfl) rfl ?_
          refine vl_guard_t rfl rfl ?_
          refine vl_det (det_pick_t rfl rfl) rfl ?_
          refine vl_det (det_pick_f rfl rfl) rfl ?_
          exact vl_cut_end ⟨rfl, trivial⟩ (by first | rfl | exact bool_to_t (by first | omega | simp_all) | exact bool_to_f (by first | omega | simp_all) | exact bool_to (by first | omega | simp_all) | exact bool_to_b (by first | omega | simp_all))
        · skip
          refine vl_guard_f rfl rfl rfl rfl ?_
          refine vl_guard_t rfl rfl ?_
          refine vl_det (det_pick_f rfl rfl) rfl ?_
          refine vl_det (det_pick_f rfl rfl) rfl ?_
          exact vl_cut_end ⟨rfl, trivial⟩ (by first | rfl | exact bool_to_t (by first | omega | simp_all) | exact bool_to_f (by first | omega | simp_all) | exact bool_to (by first | omega | simp_all) | exact bool_to_b (by first | omega | simp_all))
      · skip
        refine vl_guard_f rfl rfl rfl rfl ?_
        refine vl_guard_f rfl rfl rfl rfl ?_
        refine vl_guard_u rfl rfl rfl ?_
        refine vl_guard_u rfl rfl rfl ?_
        refine vl_guard_f rfl rfl rfl rfl ?_
        refine vl_det (det_pick_t rfl rfl) rfl ?_
        exact vl_cut_end ⟨rfl, trivial⟩ (by first | rfl | exact bool_to_t (by first | omega | simp_all) | exact bool_to_f (by first | omega | simp_all) | exact bool_to (by first | omega | simp_all) | exact bool_to_b (by first | omega | simp_all))
    · skip
      refine vl_guard_f rfl rfl rfl rfl ?_
      refine vl_det (det_pick_f rfl rfl) rfl ?_
      refine vl_det (det_move rfl) rfl ?_
      refine vl_guard_t rfl rfl ?_
      refine vl_det (det_move rfl) rfl ?_
      refine vl_guard_t rfl rfl ?_
      refine vl_det (det_geq rfl rfl) rfl ?_
      refine vl_guard_t rfl rfl ?_
      refine vl_det (det_move rfl) rfl ?_
      refine vl_guardp rfl rfl rfl (fun h12 => ?_) (fun h12 => ?_)
      · skip
        refine vl_det (det_move rfl) rfl ?_
        refine vl_guard_t rfl rfl ?_
        refine vl_det (det_leq rfl rfl) rfl ?_
        refine vl_guard_t rfl rfl ?_
        refine vl_det (det_pick_t rfl rfl) rfl ?_
        refine vl_det (det_pick_f rfl rfl) rfl ?_
        exact vl_cut_end ⟨rfl, trivial⟩ (by first | rfl | exact bool_to_t (by first | omega | simp_all) | exact bool_to_f (by first | omega | simp_all) | exact bool_to (by first | omega | simp_all) | exact bool_to_b (by first | omega | simp_all))
      · skip
        refine vl_guard_f rfl rfl rfl rfl ?_
        refine vl_guard_t rfl rfl ?_
        refine vl_det (det_pick_f rfl rfl) rfl ?_
        refine vl_det (det_pick_f rfl rfl) rfl ?_
        exact vl_cut_end ⟨rfl, trivial⟩ (by first | rfl | exact bool_to_t (by first | omega | simp_all) | exact bool_to_f (by first | omega | simp_all) | exact bool_to (by first | omega | simp_all) | exact bool_to_b (by first | omega | simp_all))
  · skip
    refine vl_end [(0, _), (16, _)] ⟨rfl, rfl, trivial⟩ ?_
    refine then_next ?_
    refine vc_decideU rfl (fun h16 => ?_) (fun h16 => ?_)
    · skip
      refine vc_seq ?_
      refine vc_region ?_
      refine vl_det (det_move rfl) rfl ?_
      refine vl_det (det_assign rfl) rfl ?_
      refine vl_end [(2, _)] ⟨rfl, trivial⟩ ?_
      refine then_next ?_
      refine vc_ret ?_
      refine then_ret ?_
      refine ret1 rfl rfl ?_
      have e : ((small c).toNat : Int) = (c.toNat : Int) := by omega
      rw [e]; exact ⟨rfl, rfl⟩
    · skip
      refine vc_skip ?_
      refine then_next ?_
      refine vc_seq ?_
      refine vc_seq ?_
      refine vc_region ?_
      refine vl_cut 6 23 [(0, _)] (65 ≤ (c.toNat : Int) ∧ (c.toNat : Int) ≤ 90) ⟨rfl, trivial⟩ ?_ ?_
      · skip
        refine vl_det (det_move rfl) rfl ?_
        refine vl_det (det_geq rfl rfl) rfl ?_
        refine vl_det (det_move rfl) rfl ?_
        refine vl_guardp rfl rfl rfl (fun h20 => ?_) (fun h20 => ?_)
        · skip
          refine vl_det (det_move rfl) rfl ?_
          refine vl_guard_t rfl rfl ?_
          refine vl_det (det_leq rfl rfl) rfl ?_
          refine vl_det (det_pick_t rfl rfl) rfl ?_
          exact vl_cut_end ⟨rfl, trivial⟩ (by first | rfl | exact bool_to_t (by first | omega | simp_all) | exact bool_to_f (by first | omega | simp_all) | exact bool_to (by first | omega | simp_all) | exact bool_to_b (by first | omega | simp_all))
        · skip
          refine vl_guard_f rfl rfl rfl rfl ?_
          refine vl_det (det_pick_f rfl rfl) rfl ?_
          exact vl_cut_end ⟨rfl, trivial⟩ (by first | rfl | exact bool_to_t (by first | omega | simp_all) | exact bool_to_f (by first | omega | simp_all) | exact bool_to (by first | omega | simp_all) | exact bool_to_b (by first | omega | simp_all))
      · skip
        refine vl_end [(0, _), (23, _)] ⟨rfl, rfl, trivial⟩ ?_
        refine then_next ?_
        refine vc_decideU rfl (fun h23 => ?_) (fun h23 => ?_)
        · skip
          refine vc_seq ?_
          refine vc_region ?_
          refine vl_det (det_move rfl) rfl ?_
          refine vl_det (det_add rfl rfl (w_u8 (by omega) (by omega))) rfl ?_
          refine vl_det (det_assign rfl) rfl ?_
          refine vl_end [(2, _)] ⟨rfl, trivial⟩ ?_
          refine then_next ?_
          refine vc_ret ?_
          refine then_ret ?_
          refine ret1 rfl rfl ?_
          have e : ((small c).toNat : Int) = (c.toNat : Int) + 32 := by omega
          rw [e]; exact ⟨rfl, rfl⟩
        · skip
          refine vc_skip ?_
          refine then_next ?_
          refine vc_seq ?_
          refine vc_region ?_
          refine vl_det (det_assign rfl) rfl ?_
          refine vl_end [(2, _)] ⟨rfl, trivial⟩ ?_
          refine then_next ?_
          refine vc_ret ?_
          refine ret1 rfl rfl ?_
          have e : small c = 0 := by rcases hs with h | h | h <;> first | exact h.2 | (exfalso; omega)
          rw [e]; exact ⟨rfl, rfl⟩
theorem ret_letter {n : Int} {b b' : Bool} {c : UInt8} (h : n = ((small c).toNat : Int)) (hb : b = b') : Value.tuple #[.int .u8 n, .bool b] = .tuple #[.int .u8 (small c).toNat, .bool b'] := by rw [h, hb]
theorem letter_d (c : UInt8) : Does Try.prog B w0 24 [.int .u8 c.toNat] F (fun r L => r = .tuple #[.int .u8 (small c).toNat, .bool (decide (small c ≠ 0))] ∧ L = F) := by
  have hs := small_cases c
  have hc := c.toNat_lt
  refine fn_walk Try.func24 27 rfl rfl rfl [(0, .int .u8 c.toNat)] ⟨⟨rfl, rfl⟩, trivial⟩ ?_
  refine vc_seq ?_
  refine vc_region ?_
  refine vl_det (det_assign rfl) rfl ?_
  refine vl_det (det_assign rfl) rfl ?_
  refine vl_end [(0, _)] ⟨rfl, trivial⟩ ?_
  refine then_next ?_
  refine vc_seq ?_
  refine vc_block ?_
  refine vc_seq ?_
  refine vc_block ?_
  refine vc_seq ?_
  refine vc_block ?_
  refine vc_seq ?_
  refine vc_seq ?_
  refine vc_seq ?_
  refine vc_region ?_
  refine vl_cut 6 10 [(0, _)] (65 ≤ (c.toNat : Int) ∧ (c.toNat : Int) ≤ 90) ⟨rfl, trivial⟩ ?_ ?_
  · skip
    refine vl_det (det_move rfl) rfl ?_
    refine vl_det (det_geq rfl rfl) rfl ?_
    refine vl_det (det_move rfl) rfl ?_
    refine vl_guardp rfl rfl rfl (fun h7 => ?_) (fun h7 => ?_)
    · skip
      refine vl_det (det_move rfl) rfl ?_
      refine vl_guard_t rfl rfl ?_
      refine vl_det (det_leq rfl rfl) rfl ?_
      refine vl_det (det_pick_t rfl rfl) rfl ?_
      exact vl_cut_end ⟨rfl, trivial⟩ (by first | rfl | exact bool_to_t (by first | omega | simp_all) | exact bool_to_f (by first | omega | simp_all) | exact bool_to (by first | omega | simp_all) | exact bool_to_b (by first | omega | simp_all))
    · skip
      refine vl_guard_f rfl rfl rfl rfl ?_
      refine vl_det (det_pick_f rfl rfl) rfl ?_
      exact vl_cut_end ⟨rfl, trivial⟩ (by first | rfl | exact bool_to_t (by first | omega | simp_all) | exact bool_to_f (by first | omega | simp_all) | exact bool_to (by first | omega | simp_all) | exact bool_to_b (by first | omega | simp_all))
  · skip
    refine vl_det (det_assign rfl) rfl ?_
    refine vl_end [(0, _), (4, _)] ⟨rfl, rfl, trivial⟩ ?_
    refine then_next ?_
    refine vc_decideU rfl (fun h4 => ?_) (fun h4 => ?_)
    · skip
      refine vc_exit ?_
      refine then_exit ?_
      refine then_exit ?_
      refine in_eq ?_
      refine then_next ?_
      refine vc_region ?_
      refine vl_det (det_move rfl) rfl ?_
      refine vl_det (det_add rfl rfl (w_u8 (by omega) (by omega))) rfl ?_
      refine vl_det (det_assign rfl) rfl ?_
      refine vl_end [(0, _)] ⟨rfl, trivial⟩ ?_
      refine in_normal ?_
      refine then_next ?_
      refine vc_seq ?_
      refine vc_seq ?_
      refine vc_region ?_
      refine vl_det (det_move rfl) rfl ?_
      refine vl_det (det_assign rfl) rfl ?_
      refine vl_det (det_assign rfl) rfl ?_
      refine vl_end [(2, _), (3, _)] ⟨rfl, rfl, trivial⟩ ?_
      refine then_next ?_
      refine vc_ret ?_
      refine then_ret ?_
      refine in_ret ?_
      refine then_ret ?_
      refine ret2 rfl rfl rfl ?_
      have e : small c ≠ 0 := by rcases hs with h | h | h <;> first | exact h.2.2 | (exfalso; omega)
      exact ⟨ret_letter (by omega) (decide_eq_true e).symm, rfl⟩
    · skip
      refine vc_skip ?_
      refine then_next ?_
      refine vc_seq ?_
      refine vc_seq ?_
      refine vc_region ?_
      refine vl_cut 6 17 [(0, _)] (97 ≤ (c.toNat : Int) ∧ (c.toNat : Int) ≤ 122) ⟨rfl, trivial⟩ ?_ ?_
      · skip
        refine vl_det (det_move rfl) rfl ?_
        refine vl_det (det_geq rfl rfl) rfl ?_
        refine vl_det (det_move rfl) rfl ?_
        refine vl_guardp rfl rfl rfl (fun h14 => ?_) (fun h14 => ?_)
        · skip
          refine vl_det (det_move rfl) rfl ?_
          refine vl_guard_t rfl rfl ?_
          refine vl_det (det_leq rfl rfl) rfl ?_
          refine vl_det (det_pick_t rfl rfl) rfl ?_
          exact vl_cut_end ⟨rfl, trivial⟩ (by first | rfl | exact bool_to_t (by first | omega | simp_all) | exact bool_to_f (by first | omega | simp_all) | exact bool_to (by first | omega | simp_all) | exact bool_to_b (by first | omega | simp_all))
        · skip
          refine vl_guard_f rfl rfl rfl rfl ?_
          refine vl_det (det_pick_f rfl rfl) rfl ?_
          exact vl_cut_end ⟨rfl, trivial⟩ (by first | rfl | exact bool_to_t (by first | omega | simp_all) | exact bool_to_f (by first | omega | simp_all) | exact bool_to (by first | omega | simp_all) | exact bool_to_b (by first | omega | simp_all))
      · skip
        refine vl_det (det_assign rfl) rfl ?_
        refine vl_end [(0, _), (11, _)] ⟨rfl, rfl, trivial⟩ ?_
        refine then_next ?_
        refine vc_decideU rfl (fun h11 => ?_) (fun h11 => ?_)
        · skip
          refine vc_skip ?_
          refine then_next ?_
          refine vc_cond_t rfl ?_
          refine vc_exit ?_
          refine then_exit ?_
          refine in_exit rfl ?_
          refine then_exit ?_
          refine in_eq ?_
          refine then_next ?_
          refine vc_seq ?_
          refine vc_seq ?_
          refine vc_region ?_
          refine vl_det (det_move rfl) rfl ?_
          refine vl_det (det_assign rfl) rfl ?_
          refine vl_det (det_assign rfl) rfl ?_
          refine vl_end [(2, _), (3, _)] ⟨rfl, rfl, trivial⟩ ?_
          refine then_next ?_
          refine vc_ret ?_
          refine then_ret ?_
          refine in_ret ?_
          refine then_ret ?_
          refine ret2 rfl rfl rfl ?_
          have e : small c ≠ 0 := by rcases hs with h | h | h <;> first | exact h.2.2 | (exfalso; omega)
          exact ⟨ret_letter (by omega) (decide_eq_true e).symm, rfl⟩
        · skip
          refine vc_region ?_
          refine vl_cut 6 23 [(0, _)] (48 ≤ (c.toNat : Int) ∧ (c.toNat : Int) ≤ 57) ⟨rfl, trivial⟩ ?_ ?_
          · skip
            refine vl_det (det_move rfl) rfl ?_
            refine vl_det (det_geq rfl rfl) rfl ?_
            refine vl_det (det_move rfl) rfl ?_
            refine vl_guardp rfl rfl rfl (fun h20 => ?_) (fun h20 => ?_)
            · skip
              refine vl_det (det_move rfl) rfl ?_
              refine vl_guard_t rfl rfl ?_
              refine vl_det (det_leq rfl rfl) rfl ?_
              refine vl_det (det_pick_t rfl rfl) rfl ?_
              exact vl_cut_end ⟨rfl, trivial⟩ (by first | rfl | exact bool_to_t (by first | omega | simp_all) | exact bool_to_f (by first | omega | simp_all) | exact bool_to (by first | omega | simp_all) | exact bool_to_b (by first | omega | simp_all))
            · skip
              refine vl_guard_f rfl rfl rfl rfl ?_
              refine vl_det (det_pick_f rfl rfl) rfl ?_
              exact vl_cut_end ⟨rfl, trivial⟩ (by first | rfl | exact bool_to_t (by first | omega | simp_all) | exact bool_to_f (by first | omega | simp_all) | exact bool_to (by first | omega | simp_all) | exact bool_to_b (by first | omega | simp_all))
          · skip
            refine vl_det (det_assign rfl) rfl ?_
            refine vl_end [(0, _), (11, _)] ⟨rfl, rfl, trivial⟩ ?_
            refine then_next ?_
            refine vc_decideU rfl (fun h11 => ?_) (fun h11 => ?_)
            · skip
              refine vc_exit ?_
              refine then_exit ?_
              refine in_exit rfl ?_
              refine then_exit ?_
              refine in_eq ?_
              refine then_next ?_
              refine vc_seq ?_
              refine vc_seq ?_
              refine vc_region ?_
              refine vl_det (det_move rfl) rfl ?_
              refine vl_det (det_assign rfl) rfl ?_
              refine vl_det (det_assign rfl) rfl ?_
              refine vl_end [(2, _), (3, _)] ⟨rfl, rfl, trivial⟩ ?_
              refine then_next ?_
              refine vc_ret ?_
              refine then_ret ?_
              refine in_ret ?_
              refine then_ret ?_
              refine ret2 rfl rfl rfl ?_
              have e : small c ≠ 0 := by rcases hs with h | h | h <;> first | exact h.2.2 | (exfalso; omega)
              exact ⟨ret_letter (by omega) (decide_eq_true e).symm, rfl⟩
            · skip
              refine vc_skip ?_
              refine then_next ?_
              refine vc_exit ?_
              refine in_exit rfl ?_
              refine then_exit ?_
              refine in_exit rfl ?_
              refine then_exit ?_
              refine in_eq ?_
              refine then_next ?_
              refine vc_seq ?_
              refine vc_region ?_
              refine vl_det (det_assign rfl) rfl ?_
              refine vl_det (det_assign rfl) rfl ?_
              refine vl_end [(2, _), (3, _)] ⟨rfl, rfl, trivial⟩ ?_
              refine then_next ?_
              refine vc_ret ?_
              refine ret2 rfl rfl rfl ?_
              have e : small c = 0 := by rcases hs with h | h | h <;> first | exact h.2 | (exfalso; omega)
              rw [e]; exact ⟨rfl, rfl⟩
/-- all are letters -/
def AllS (l : List UInt8) : Prop := ∀ c ∈ l, small c ≠ 0
instance (l : List UInt8) : Decidable (AllS l) := inferInstanceAs (Decidable (∀ c ∈ l, small c ≠ 0))
theorem AllS.nil_ : AllS [] := by intro c h; cases h
theorem AllS.take {l : List UInt8} (h : AllS l) (k : Nat) : AllS (l.take k) := fun c hc => h c (List.mem_of_mem_take hc)
theorem AllS.step {l : List UInt8} {k : Nat} (h : AllS (l.take k)) (hk : k < l.length) (hs : small (l.getD k 0) ≠ 0) : AllS (l.take (k + 1)) := by
  rw [take_getD hk 0]
  intro c hc
  rcases List.mem_append.1 hc with hc | hc
  · exact h c hc
  · simp only [List.mem_singleton] at hc; rw [hc]; exact hs
theorem AllS.all {l : List UInt8} {k : Nat} (h : AllS (l.take k)) (hk : ¬ k < l.length) : AllS l := by rwa [List.take_of_length_le (by omega)] at h
theorem smalls_step {l : List UInt8} {k : Nat} (hk : k < l.length) : bv ((l.take k).map small) ++ [Value.int .u8 ((small (l.getD k 0)).toNat : Int)] = bv ((l.take (k + 1)).map small) := by
  rw [take_getD hk 0]; simp [bv]
/-- a text by itself -/
def oneL (s : List UInt8) : List UInt8 × Bool := if (1 ≤ s.length ∧ s.length ≤ 24) ∧ AllS s then (s.map small, true) else ([], false)
theorem oneL_yes {s : List UInt8} (h1 : 1 ≤ s.length ∧ s.length ≤ 24) (h2 : AllS s) : oneL s = (s.map small, true) := if_pos ⟨h1, h2⟩
theorem oneL_no {s : List UInt8} (h : ¬ ((1 ≤ s.length ∧ s.length ≤ 24) ∧ AllS s)) : oneL s = ([], false) := if_neg h
theorem u8_zero {x : UInt8} (h : (x.toNat : Int) = 0) : x = 0 := UInt8.toNat_inj.1 (by simp; omega)
theorem u8_some {x : UInt8} (h : ¬ (x.toNat : Int) = 0) : x ≠ 0 := fun e => h (by rw [e]; rfl)
theorem one_d (s : List UInt8) : Does Try.prog B w0 15 [.string ⟨s.toArray⟩] F (fun r L => r = .tuple #[.string ⟨(oneL s).1.toArray⟩, .bool (oneL s).2] ∧ L = F) := by
  refine fn_walk Try.func15 36 rfl rfl rfl [(0, .string ⟨s.toArray⟩)] ⟨⟨rfl, rfl⟩, trivial⟩ ?_
  refine vc_seq ?_
  refine vc_region ?_
  refine vl_det (det_assign rfl) rfl ?_
  refine vl_det (det_assign rfl) rfl ?_
  refine vl_end [(0, _)] ⟨rfl, trivial⟩ ?_
  refine then_next ?_
  refine vc_seq ?_
  refine vc_seq ?_
  refine vc_region ?_
  refine vl_cut 7 14 [(0, _)] (¬ (1 ≤ s.length ∧ s.length ≤ 24)) ⟨rfl, trivial⟩ ?_ ?_
  · skip
    refine vl_det (det_move rfl) rfl ?_
    refine vl_det (det_s_eql rfl rfl) rfl ?_
    refine vl_det (det_move rfl) rfl ?_
    refine vl_guardn rfl rfl rfl (fun h10 => ?_) (fun h10 => ?_)
    · skip
      refine vl_det (det_move rfl) rfl ?_
      refine vl_guard_t rfl rfl ?_
      refine vl_det (det_len_s Try.underlying9 rfl) rfl ?_
      refine vl_guard_t rfl rfl ?_
      refine vl_det (det_gtr rfl rfl) rfl ?_
      refine vl_det (det_pick_f rfl rfl) rfl ?_
      exact vl_cut_end ⟨rfl, trivial⟩ (by first | rfl | exact bool_to_t (by first | omega | (subst h10; simp) | (have := List.length_pos_iff.2 h10; omega)) | exact bool_to_f (by first | omega | (subst h10; simp) | (have := List.length_pos_iff.2 h10; omega)) | exact bool_to (by first | omega | (subst h10; simp) | (have := List.length_pos_iff.2 h10; omega)) | exact bool_to_b (by first | omega | (subst h10; simp) | (have := List.length_pos_iff.2 h10; omega)))
    · skip
      refine vl_guard_f rfl rfl rfl rfl ?_
      refine vl_guard_f rfl rfl rfl rfl ?_
      refine vl_det (det_pick_t rfl rfl) rfl ?_
      exact vl_cut_end ⟨rfl, trivial⟩ (by first | rfl | exact bool_to_t (by first | omega | (subst h10; simp) | (have := List.length_pos_iff.2 h10; omega)) | exact bool_to_f (by first | omega | (subst h10; simp) | (have := List.length_pos_iff.2 h10; omega)) | exact bool_to (by first | omega | (subst h10; simp) | (have := List.length_pos_iff.2 h10; omega)) | exact bool_to_b (by first | omega | (subst h10; simp) | (have := List.length_pos_iff.2 h10; omega)))
  · skip
    refine vl_end [(0, _), (14, _)] ⟨rfl, rfl, trivial⟩ ?_
    refine then_next ?_
    refine vc_decideU rfl (fun h14 => ?_) (fun h14 => ?_)
    · skip
      refine vc_seq ?_
      refine vc_region ?_
      refine vl_det (det_assign rfl) rfl ?_
      refine vl_det (det_assign rfl) rfl ?_
      refine vl_end [(2, _), (3, _)] ⟨rfl, rfl, trivial⟩ ?_
      refine then_next ?_
      refine vc_ret ?_
      refine then_ret ?_
      refine ret2 rfl rfl rfl ?_
      rw [oneL_no (fun h => h14 h.1)]; exact ⟨rfl, rfl⟩
    · skip
      refine vc_skip ?_
      refine then_next ?_
      refine vc_seq ?_
      refine vc_region ?_
      refine vl_det (det_assign rfl) rfl ?_
      refine vl_end [(0, _), (4, _)] ⟨rfl, rfl, trivial⟩ ?_
      refine then_next ?_
      refine vc_seq ?_
      refine vc_seq ?_
      refine vc_region ?_
      refine vl_det (det_move rfl) rfl ?_
      refine vl_det (det_len_s Try.underlying9 rfl) rfl ?_
      refine vl_det (det_move rfl) rfl ?_
      refine vl_end [(0, _), (4, _), (16, _), (17, _)] ⟨rfl, rfl, rfl, rfl, trivial⟩ ?_
      refine then_next ?_
      refine vc_block ?_
      refine vc_nil_row 5 1 none ?_
      refine vc_loopJ (fun zf zL zm => ∃ (k : Nat) (A : Option Addr) (c : Nat), (k ≤ s.length ∧ AllS (s.take k)) ∧ s.length - k = zm ∧ Sub zf [(0, .string ⟨s.toArray⟩), (4, .slice A k c), (16, .int .i64 s.length), (17, .int .i64 k)] ∧ Wk zL (.own 5 1 A k c (bv ((s.take k).map small)) :: F)) _ ⟨0, none, 0, ⟨Nat.zero_le _, AllS.nil_⟩, rfl, ⟨(by first | rfl | exact int_to (by omega) | exact sl_to (by omega)), (by first | rfl | exact int_to (by omega) | exact sl_to (by omega)), (by first | rfl | exact int_to (by omega) | exact sl_to (by omega)), (by first | rfl | exact int_to (by omega) | exact sl_to (by omega)), trivial⟩, .refl _⟩ ?_
      rintro _ _ _ ⟨k, A, c, ⟨hk, hA⟩, rfl, hs, hp⟩
      refine vc_weaken _ hs (vc_wk hp ?_)
      clear hs hp
      refine vc_seq ?_
      refine vc_region ?_
      refine vl_det (det_lss rfl rfl) rfl ?_
      refine vl_end [(0, _), (4, _), (16, _), (17, _), (18, _)] ⟨rfl, rfl, rfl, rfl, rfl, trivial⟩ ?_
      refine then_next ?_
      refine vc_seq ?_
      refine vc_decideU rfl (fun h18 => ?_) (fun h18 => ?_)
      · skip
        refine vc_skip ?_
        refine then_next ?_
        refine vc_seq ?_
        refine vc_block ?_
        refine vc_seq ?_
        refine vc_region ?_
        refine vl_det (det_move rfl) rfl ?_
        refine vl_det (det_assign rfl) rfl ?_
        refine vl_end [(0, _), (4, _), (5, _), (16, _), (17, _)] ⟨rfl, rfl, rfl, rfl, rfl, trivial⟩ ?_
        refine then_next ?_
        refine vc_seq ?_
        refine vc_region ?_
        refine vl_det (det_move rfl) rfl ?_
        refine vl_det (det_move rfl) rfl ?_
        refine vl_det (det_at_str Try.underlying9 rfl rfl rfl (by omega)) rfl ?_
        refine vl_call co24 rfl (letter_d _) rfl ?_
        rintro _ _ ⟨rfl, hLL⟩
        obtain rfl := hLL.symm
        refine vl_det (det_move rfl) rfl ?_
        refine vl_det (det_extract rfl rfl) rfl ?_
        refine vl_det (det_extract rfl rfl) rfl ?_
        refine vl_det (det_assign rfl) rfl ?_
        refine vl_det (det_assign rfl) rfl ?_
        refine vl_end [(0, _), (4, _), (6, _), (7, _), (16, _), (17, _)] ⟨rfl, rfl, rfl, rfl, rfl, rfl, trivial⟩ ?_
        refine then_next ?_
        refine vc_seq ?_
        refine vc_seq ?_
        refine vc_region ?_
        refine vl_det (det_move rfl) rfl ?_
        refine vl_det (det_not rfl) rfl ?_
        refine vl_end [(0, _), (4, _), (6, _), (16, _), (17, _), (28, _)] ⟨rfl, rfl, rfl, rfl, rfl, rfl, trivial⟩ ?_
        refine then_next ?_
        refine vc_condU rfl (fun h28 => ?_) (fun h28 => ?_)
        · skip
          refine vc_seq ?_
          refine vc_region ?_
          refine vl_det (det_assign rfl) rfl ?_
          refine vl_det (det_assign rfl) rfl ?_
          refine vl_end [(2, _), (3, _)] ⟨rfl, rfl, trivial⟩ ?_
          refine then_next ?_
          refine vc_ret ?_
          refine then_ret ?_
          refine in_ret ?_
          refine then_ret ?_
          refine loop_ret ?_
          refine in_ret ?_
          refine then_ret ?_
          refine ret_drop (.cons _ (.refl _)) ?_
          refine ret2 rfl rfl rfl ?_
          rw [oneL_no (fun h => h.2 _ (getD_mem (k := k) (by omega) 0) (by simpa using h28))]; exact ⟨rfl, rfl⟩
        · skip
          refine vc_skip ?_
          refine then_next ?_
          refine vc_region ?_
          refine vl_det (det_move rfl) rfl ?_
          refine vl_det (det_move rfl) rfl ?_
          refine vl_push slT28 rfl rfl rfl rfl rfl (fun _ => rfl) (by repeat (first | exact .hd | apply Sel.tl)) (by omega) (by omega) ?_
          intro _ A32 c32
          refine vl_det (det_assign rfl) rfl ?_
          refine vl_end [(0, _), (4, _), (16, _), (17, _)] ⟨rfl, rfl, rfl, rfl, trivial⟩ ?_
          refine in_normal ?_
          refine then_next ?_
          refine vc_region ?_
          refine vl_det (det_add rfl rfl (w_i64 (by omega) (by omega))) rfl ?_
          refine vl_det (det_move rfl) rfl ?_
          refine vl_end [(0, _), (4, _), (16, _), (17, _)] ⟨rfl, rfl, rfl, rfl, trivial⟩ ?_
          refine in_loop_ ⟨_, by omega, k + 1, A32, c32, ⟨by omega, hA.step (by omega) (by simpa using h28)⟩, rfl, ⟨(by first | rfl | exact int_to (by omega) | exact sl_to (by omega)), (by first | rfl | exact int_to (by omega) | exact sl_to (by omega)), (by first | rfl | exact int_to (by omega) | exact sl_to (by omega)), (by first | rfl | exact int_to (by omega) | exact sl_to (by omega)), trivial⟩, wk_own rfl (smalls_step (by omega)) (.refl _)⟩
      · skip
        refine vc_exit ?_
        refine then_exit ?_
        refine loop_exit ?_
        refine in_eq ?_
        refine then_next ?_
        refine vc_seq ?_
        refine vc_region ?_
        refine vl_det (det_move rfl) rfl ?_
        refine vl_det (det_bstr Try.underlying28 Try.underlying5 Try.underlying9 rfl (by first | (exact Bor.own (by repeat (first | exact List.Mem.head _ | apply List.Mem.tail))) | (repeat (first | assumption | apply Bor.cons)))) rfl ?_
        refine vl_det (det_assign rfl) rfl ?_
        refine vl_det (det_assign rfl) rfl ?_
        refine vl_end [(2, _), (3, _)] ⟨rfl, rfl, trivial⟩ ?_
        refine then_next ?_
        refine vc_ret ?_
        refine ret_drop (.cons _ (.refl _)) ?_
        refine ret2 rfl rfl rfl ?_
        rw [oneL_yes (by omega) (hA.all (by omega)), List.take_of_length_le (by omega)]; exact ⟨rfl, rfl⟩
theorem rone_d (s : List UInt8) : Does Try.prog B w0 16 [.string ⟨s.toArray⟩] F (fun r L => r = .tuple #[.string ⟨(oneL s).1.toArray⟩, .bool (oneL s).2] ∧ L = F) := by
  refine fn_walk Try.func16 34 rfl rfl rfl [(0, .string ⟨s.toArray⟩)] ⟨⟨rfl, rfl⟩, trivial⟩ ?_
  refine vc_seq ?_
  refine vc_region ?_
  refine vl_det (det_assign rfl) rfl ?_
  refine vl_det (det_assign rfl) rfl ?_
  refine vl_end [(0, _)] ⟨rfl, trivial⟩ ?_
  refine then_next ?_
  refine vc_seq ?_
  refine vc_seq ?_
  refine vc_region ?_
  refine vl_cut 8 13 [(0, _)] (¬ (1 ≤ s.length ∧ s.length ≤ 24)) ⟨rfl, trivial⟩ ?_ ?_
  · skip
    refine vl_det (det_move rfl) rfl ?_
    refine vl_det (det_len_s Try.underlying9 rfl) rfl ?_
    refine vl_det (det_lss rfl rfl) rfl ?_
    refine vl_det (det_move rfl) rfl ?_
    refine vl_guardn rfl rfl rfl (fun h9 => ?_) (fun h9 => ?_)
    · skip
      refine vl_det (det_move rfl) rfl ?_
      refine vl_guard_t rfl rfl ?_
      refine vl_det (det_len_s Try.underlying9 rfl) rfl ?_
      refine vl_guard_t rfl rfl ?_
      refine vl_det (det_gtr rfl rfl) rfl ?_
      refine vl_det (det_pick_f rfl rfl) rfl ?_
      exact vl_cut_end ⟨rfl, trivial⟩ (by first | rfl | exact bool_to_t (by first | omega | simp_all) | exact bool_to_f (by first | omega | simp_all) | exact bool_to (by first | omega | simp_all) | exact bool_to_b (by first | omega | simp_all))
    · skip
      refine vl_guard_f rfl rfl rfl rfl ?_
      refine vl_guard_f rfl rfl rfl rfl ?_
      refine vl_det (det_pick_t rfl rfl) rfl ?_
      exact vl_cut_end ⟨rfl, trivial⟩ (by first | rfl | exact bool_to_t (by first | omega | simp_all) | exact bool_to_f (by first | omega | simp_all) | exact bool_to (by first | omega | simp_all) | exact bool_to_b (by first | omega | simp_all))
  · skip
    refine vl_end [(0, _), (13, _)] ⟨rfl, rfl, trivial⟩ ?_
    refine then_next ?_
    refine vc_decideU rfl (fun h13 => ?_) (fun h13 => ?_)
    · skip
      refine vc_seq ?_
      refine vc_region ?_
      refine vl_det (det_assign rfl) rfl ?_
      refine vl_det (det_assign rfl) rfl ?_
      refine vl_end [(2, _), (3, _)] ⟨rfl, rfl, trivial⟩ ?_
      refine then_next ?_
      refine vc_ret ?_
      refine then_ret ?_
      refine ret2 rfl rfl rfl ?_
      rw [oneL_no (fun h => h13 h.1)]; exact ⟨rfl, rfl⟩
    · skip
      refine vc_skip ?_
      refine then_next ?_
      refine vc_seq ?_
      refine vc_region ?_
      refine vl_det (det_assign rfl) rfl ?_
      refine vl_end [(0, _), (4, _)] ⟨rfl, rfl, trivial⟩ ?_
      refine then_next ?_
      refine vc_seq ?_
      refine vc_seq ?_
      refine vc_region ?_
      refine vl_det (det_assign rfl) rfl ?_
      refine vl_end [(0, _), (4, _), (5, _)] ⟨rfl, rfl, rfl, trivial⟩ ?_
      refine then_next ?_
      refine vc_block ?_
      refine vc_nil_row 5 1 none ?_
      refine vc_loopJ (fun zf zL zm => ∃ (k : Nat) (A : Option Addr) (c : Nat), (k ≤ s.length ∧ AllS (s.take k)) ∧ s.length - k = zm ∧ Sub zf [(0, .string ⟨s.toArray⟩), (4, .slice A k c), (5, .int .i64 k)] ∧ Wk zL (.own 5 1 A k c (bv ((s.take k).map small)) :: F)) _ ⟨0, none, 0, ⟨Nat.zero_le _, AllS.nil_⟩, rfl, ⟨(by first | rfl | exact int_to (by omega) | exact sl_to (by omega)), (by first | rfl | exact int_to (by omega) | exact sl_to (by omega)), (by first | rfl | exact int_to (by omega) | exact sl_to (by omega)), trivial⟩, .refl _⟩ ?_
      rintro _ _ _ ⟨k, A, c, ⟨hk, hA⟩, rfl, hs, hp⟩
      refine vc_weaken _ hs (vc_wk hp ?_)
      clear hs hp
      refine vc_seq ?_
      refine vc_seq ?_
      refine vc_region ?_
      refine vl_det (det_move rfl) rfl ?_
      refine vl_det (det_move rfl) rfl ?_
      refine vl_det (det_len_s Try.underlying9 rfl) rfl ?_
      refine vl_det (det_lss rfl rfl) rfl ?_
      refine vl_end [(0, _), (4, _), (5, _), (17, _)] ⟨rfl, rfl, rfl, rfl, trivial⟩ ?_
      refine then_next ?_
      refine vc_decideU rfl (fun h17 => ?_) (fun h17 => ?_)
      · skip
        refine vc_skip ?_
        refine then_next ?_
        refine vc_seq ?_
        refine vc_block ?_
        refine vc_seq ?_
        refine vc_seq ?_
        refine vc_region ?_
        refine vl_det (det_move rfl) rfl ?_
        refine vl_det (det_move rfl) rfl ?_
        refine vl_det (det_at_str Try.underlying9 rfl rfl rfl (by omega)) rfl ?_
        refine vl_call co14 rfl (rsmall_d _) rfl ?_
        rintro _ _ ⟨rfl, hLL⟩
        obtain rfl := hLL.symm
        refine vl_det (det_eql rfl rfl) rfl ?_
        refine vl_end [(0, _), (4, _), (5, _), (24, _)] ⟨rfl, rfl, rfl, rfl, trivial⟩ ?_
        refine then_next ?_
        refine vc_decideU rfl (fun h24 => ?_) (fun h24 => ?_)
        · skip
          refine vc_seq ?_
          refine vc_region ?_
          refine vl_det (det_assign rfl) rfl ?_
          refine vl_det (det_assign rfl) rfl ?_
          refine vl_end [(2, _), (3, _)] ⟨rfl, rfl, trivial⟩ ?_
          refine then_next ?_
          refine vc_ret ?_
          refine then_ret ?_
          refine in_ret ?_
          refine then_ret ?_
          refine loop_ret ?_
          refine in_ret ?_
          refine then_ret ?_
          refine ret_drop (.cons _ (.refl _)) ?_
          refine ret2 rfl rfl rfl ?_
          rw [oneL_no (fun h => h.2 _ (getD_mem (k := k) (by omega) 0) (u8_zero h24))]; exact ⟨rfl, rfl⟩
        · skip
          refine vc_skip ?_
          refine then_next ?_
          refine vc_region ?_
          refine vl_det (det_move rfl) rfl ?_
          refine vl_det (det_move rfl) rfl ?_
          refine vl_det (det_move rfl) rfl ?_
          refine vl_det (det_at_str Try.underlying9 rfl rfl rfl (by omega)) rfl ?_
          refine vl_call co14 rfl (rsmall_d _) rfl ?_
          rintro _ _ ⟨rfl, hLL⟩
          obtain rfl := hLL.symm
          refine vl_push slT28 rfl rfl rfl rfl rfl (fun _ => rfl) (by repeat (first | exact .hd | apply Sel.tl)) (by omega) (by omega) ?_
          intro _ A31 c31
          refine vl_det (det_assign rfl) rfl ?_
          refine vl_end [(0, _), (4, _), (5, _)] ⟨rfl, rfl, rfl, trivial⟩ ?_
          refine in_normal ?_
          refine then_next ?_
          refine vc_region ?_
          refine vl_det (det_move rfl) rfl ?_
          refine vl_det (det_add rfl rfl (w_i64 (by omega) (by omega))) rfl ?_
          refine vl_det (det_assign rfl) rfl ?_
          refine vl_end [(0, _), (4, _), (5, _)] ⟨rfl, rfl, rfl, trivial⟩ ?_
          refine in_loop_ ⟨_, by omega, k + 1, A31, c31, ⟨by omega, hA.step (by omega) (u8_some h24)⟩, rfl, ⟨(by first | rfl | exact int_to (by omega) | exact sl_to (by omega)), (by first | rfl | exact int_to (by omega) | exact sl_to (by omega)), (by first | rfl | exact int_to (by omega) | exact sl_to (by omega)), trivial⟩, wk_own rfl (smalls_step (by omega)) (.refl _)⟩
      · skip
        refine vc_exit ?_
        refine then_exit ?_
        refine loop_exit ?_
        refine in_eq ?_
        refine then_next ?_
        refine vc_seq ?_
        refine vc_region ?_
        refine vl_det (det_move rfl) rfl ?_
        refine vl_det (det_bstr Try.underlying28 Try.underlying5 Try.underlying9 rfl (by first | (exact Bor.own (by repeat (first | exact List.Mem.head _ | apply List.Mem.tail))) | (repeat (first | assumption | apply Bor.cons)))) rfl ?_
        refine vl_det (det_assign rfl) rfl ?_
        refine vl_det (det_assign rfl) rfl ?_
        refine vl_end [(2, _), (3, _)] ⟨rfl, rfl, trivial⟩ ?_
        refine then_next ?_
        refine vc_ret ?_
        refine ret_drop (.cons _ (.refl _)) ?_
        refine ret2 rfl rfl rfl ?_
        rw [oneL_yes (by omega) (hA.all (by omega)), List.take_of_length_le (by omega)]; exact ⟨rfl, rfl⟩
/-- what stands behind an @ ahead -/
def bare (s : List UInt8) : List UInt8 := if s.head? = some 64 then s.drop 1 else s
def termL (s : List UInt8) : Bool := (oneL (bare s)).2 && decide ((oneL (bare s)).1 = bare s)
theorem bare_at {s : List UInt8} (h1 : 0 < s.length) (h2 : s.getD 0 0 = 64) : bare s = s.drop 1 := by
  rcases s with _ | ⟨c, r⟩
  · simp at h1
  · simp at h2; subst h2; rfl
theorem bare_not {s : List UInt8} (h : ¬ (0 < s.length ∧ s.getD 0 0 = 64)) : bare s = s := by
  rcases s with _ | ⟨c, r⟩
  · rfl
  · unfold bare
    rw [if_neg]
    simp at h ⊢
    exact h
theorem rterm_d (s : List UInt8) : Does Try.prog B w0 18 [.string ⟨s.toArray⟩] F (fun r L => r = .bool (termL s) ∧ L = F) := by
  refine fn_walk Try.func18 28 rfl rfl rfl [(0, .string ⟨s.toArray⟩)] ⟨⟨rfl, rfl⟩, trivial⟩ ?_
  refine vc_seq ?_
  refine vc_region ?_
  refine vl_det (det_assign rfl) rfl ?_
  refine vl_end [(0, _)] ⟨rfl, trivial⟩ ?_
  refine then_next ?_
  refine vc_seq ?_
  refine vc_region ?_
  refine vl_det (det_move rfl) rfl ?_
  refine vl_det (det_assign rfl) rfl ?_
  refine vl_end [(0, _), (3, _)] ⟨rfl, rfl, trivial⟩ ?_
  refine then_next ?_
  refine vc_seqJ (fun zf zL => Sub zf [(3, .string ⟨(bare s).toArray⟩)] ∧ Wk zL (F)) ?_ ?_
  · skip
    refine vc_seq ?_
    refine vc_region ?_
    refine vl_cut 8 14 [(0, _), (3, _)] (0 < s.length ∧ s.getD 0 0 = 64) ⟨rfl, rfl, trivial⟩ ?_ ?_
    · skip
      refine vl_det (det_move rfl) rfl ?_
      refine vl_det (det_len_s Try.underlying9 rfl) rfl ?_
      refine vl_det (det_gtr rfl rfl) rfl ?_
      refine vl_det (det_move rfl) rfl ?_
      refine vl_guardp rfl rfl rfl (fun h10 => ?_) (fun h10 => ?_)
      · skip
        refine vl_det (det_move rfl) rfl ?_
        refine vl_guard_t rfl rfl ?_
        refine vl_det (det_at_str (i := 0) Try.underlying9 rfl rfl rfl (by omega)) rfl ?_
        refine vl_guard_t rfl rfl ?_
        refine vl_det (det_eql rfl rfl) rfl ?_
        refine vl_det (det_pick_t rfl rfl) rfl ?_
        exact vl_cut_end ⟨rfl, rfl, trivial⟩ (by first | rfl | exact bool_to_t (by first | omega | (rw [← UInt8.toNat_inj]; simp; omega)) | exact bool_to_f (by first | omega | (rw [← UInt8.toNat_inj]; simp; omega)) | exact bool_to (by first | omega | (rw [← UInt8.toNat_inj]; simp; omega)) | exact bool_to_b (by first | omega | (rw [← UInt8.toNat_inj]; simp; omega)))
      · skip
        refine vl_guard_f rfl rfl rfl rfl ?_
        refine vl_guard_f rfl rfl rfl rfl ?_
        refine vl_det (det_pick_f rfl rfl) rfl ?_
        exact vl_cut_end ⟨rfl, rfl, trivial⟩ (by first | rfl | exact bool_to_t (by first | omega | (rw [← UInt8.toNat_inj]; simp; omega)) | exact bool_to_f (by first | omega | (rw [← UInt8.toNat_inj]; simp; omega)) | exact bool_to (by first | omega | (rw [← UInt8.toNat_inj]; simp; omega)) | exact bool_to_b (by first | omega | (rw [← UInt8.toNat_inj]; simp; omega)))
    · skip
      refine vl_end [(0, _), (3, _), (14, _)] ⟨rfl, rfl, rfl, trivial⟩ ?_
      refine then_next ?_
      refine vc_decideU rfl (fun h14 => ?_) (fun h14 => ?_)
      · skip
        refine vc_region ?_
        refine vl_det (det_move rfl) rfl ?_
        refine vl_det (det_str_lo (i := 1) Try.underlying9 rfl rfl rfl (by omega)) rfl ?_
        refine vl_det (det_assign rfl) rfl ?_
        refine vl_end [(3, _)] ⟨rfl, trivial⟩ ?_
        rw [← bare_at h14.1 h14.2]
        exact in_join ⟨⟨(by first | rfl | exact int_to (by omega) | exact sl_to (by omega)), trivial⟩, .refl _⟩
      · skip
        refine vc_skip ?_
        rw [bare_not h14]
        exact in_join ⟨⟨(by first | rfl | exact int_to (by omega) | exact sl_to (by omega)), trivial⟩, .refl _⟩
  · rintro _ _ ⟨hs, hp⟩
    refine vc_weaken _ hs (vc_wk hp ?_)
    clear hs hp
    refine vc_seq ?_
    refine vc_region ?_
    refine vl_det (det_move rfl) rfl ?_
    refine vl_call co16 rfl (rone_d _) rfl ?_
    rintro _ _ ⟨rfl, hLL⟩
    obtain rfl := hLL.symm
    refine vl_det (det_move rfl) rfl ?_
    refine vl_det (det_extract rfl rfl) rfl ?_
    refine vl_det (det_extract rfl rfl) rfl ?_
    refine vl_det (det_assign rfl) rfl ?_
    refine vl_det (det_assign rfl) rfl ?_
    refine vl_end [(3, _), (4, _), (5, _)] ⟨rfl, rfl, rfl, trivial⟩ ?_
    refine then_next ?_
    refine vc_seq ?_
    refine vc_region ?_
    refine vl_det (det_move rfl) rfl ?_
    refine vl_det (det_move rfl) rfl ?_
    refine vl_guard rfl rfl rfl (fun h23 => ?_) (fun h23 => ?_)
    · skip
      refine vl_det (det_move rfl) rfl ?_
      refine vl_guard_t rfl rfl ?_
      refine vl_det (det_move rfl) rfl ?_
      refine vl_guard_t rfl rfl ?_
      refine vl_det (det_s_eql rfl rfl) rfl ?_
      refine vl_det (det_pick_t rfl rfl) rfl ?_
      refine vl_det (det_assign rfl) rfl ?_
      refine vl_end [(2, _)] ⟨rfl, trivial⟩ ?_
      refine then_next ?_
      refine vc_ret ?_
      refine ret1 rfl rfl ?_
      unfold termL; simp_all
    · skip
      refine vl_guard_f rfl rfl rfl rfl ?_
      refine vl_guard_f rfl rfl rfl rfl ?_
      refine vl_det (det_pick_f rfl rfl) rfl ?_
      refine vl_det (det_assign rfl) rfl ?_
      refine vl_end [(2, _)] ⟨rfl, trivial⟩ ?_
      refine then_next ?_
      refine vc_ret ?_
      refine ret1 rfl rfl ?_
      unfold termL; simp_all
theorem term_d (s : List UInt8) : Does Try.prog B w0 17 [.string ⟨s.toArray⟩] F (fun r L => r = .bool (termL s) ∧ L = F) := by
  refine fn_walk Try.func17 25 rfl rfl rfl [(0, .string ⟨s.toArray⟩)] ⟨⟨rfl, rfl⟩, trivial⟩ ?_
  refine vc_seq ?_
  refine vc_region ?_
  refine vl_det (det_assign rfl) rfl ?_
  refine vl_end [(0, _)] ⟨rfl, trivial⟩ ?_
  refine then_next ?_
  refine vc_seqJ (fun zf zL => Sub zf [(0, .string ⟨(bare s).toArray⟩)] ∧ Wk zL (F)) ?_ ?_
  · skip
    refine vc_seq ?_
    refine vc_region ?_
    refine vl_cut 7 11 [(0, _)] (0 < s.length ∧ s.getD 0 0 = 64) ⟨rfl, trivial⟩ ?_ ?_
    · skip
      refine vl_det (det_move rfl) rfl ?_
      refine vl_det (det_s_neq rfl rfl) rfl ?_
      refine vl_det (det_move rfl) rfl ?_
      refine vl_guardp rfl rfl rfl (fun h7 => ?_) (fun h7 => ?_)
      · skip
        refine vl_det (det_move rfl) rfl ?_
        refine vl_guard_t rfl rfl ?_
        have hl := List.length_pos_iff.2 h7
        refine vl_det (det_str_hi (i := 1) Try.underlying9 rfl rfl rfl (by omega)) rfl ?_
        refine vl_guard_t rfl rfl ?_
        refine vl_det (det_s_eql rfl rfl) rfl ?_
        refine vl_det (det_pick_t rfl rfl) rfl ?_
        exact vl_cut_end ⟨rfl, trivial⟩ (by first | rfl | exact bool_to_t (by first | omega | (simp at h7; subst h7; simp; done) | (have := List.length_pos_iff.2 h7; rcases s with _ | ⟨c, r⟩ <;> simp_all)) | exact bool_to_f (by first | omega | (simp at h7; subst h7; simp; done) | (have := List.length_pos_iff.2 h7; rcases s with _ | ⟨c, r⟩ <;> simp_all)) | exact bool_to (by first | omega | (simp at h7; subst h7; simp; done) | (have := List.length_pos_iff.2 h7; rcases s with _ | ⟨c, r⟩ <;> simp_all)) | exact bool_to_b (by first | omega | (simp at h7; subst h7; simp; done) | (have := List.length_pos_iff.2 h7; rcases s with _ | ⟨c, r⟩ <;> simp_all)))
      · skip
        refine vl_guard_f rfl rfl rfl rfl ?_
        refine vl_guard_f rfl rfl rfl rfl ?_
        refine vl_det (det_pick_f rfl rfl) rfl ?_
        exact vl_cut_end ⟨rfl, trivial⟩ (by first | rfl | exact bool_to_t (by first | omega | (simp at h7; subst h7; simp; done) | (have := List.length_pos_iff.2 h7; rcases s with _ | ⟨c, r⟩ <;> simp_all)) | exact bool_to_f (by first | omega | (simp at h7; subst h7; simp; done) | (have := List.length_pos_iff.2 h7; rcases s with _ | ⟨c, r⟩ <;> simp_all)) | exact bool_to (by first | omega | (simp at h7; subst h7; simp; done) | (have := List.length_pos_iff.2 h7; rcases s with _ | ⟨c, r⟩ <;> simp_all)) | exact bool_to_b (by first | omega | (simp at h7; subst h7; simp; done) | (have := List.length_pos_iff.2 h7; rcases s with _ | ⟨c, r⟩ <;> simp_all)))
    · skip
      refine vl_end [(0, _), (11, _)] ⟨rfl, rfl, trivial⟩ ?_
      refine then_next ?_
      refine vc_decideU rfl (fun h11 => ?_) (fun h11 => ?_)
      · skip
        refine vc_region ?_
        refine vl_det (det_move rfl) rfl ?_
        refine vl_det (det_str_lo (i := 1) Try.underlying9 rfl rfl rfl (by omega)) rfl ?_
        refine vl_det (det_assign rfl) rfl ?_
        refine vl_end [(0, _)] ⟨rfl, trivial⟩ ?_
        rw [← bare_at h11.1 h11.2]
        exact in_join ⟨⟨(by first | rfl | exact int_to (by omega) | exact sl_to (by omega)), trivial⟩, .refl _⟩
      · skip
        refine vc_skip ?_
        rw [bare_not h11]
        exact in_join ⟨⟨(by first | rfl | exact int_to (by omega) | exact sl_to (by omega)), trivial⟩, .refl _⟩
  · rintro _ _ ⟨hs, hp⟩
    refine vc_weaken _ hs (vc_wk hp ?_)
    clear hs hp
    refine vc_seq ?_
    refine vc_region ?_
    refine vl_det (det_move rfl) rfl ?_
    refine vl_call co15 rfl (one_d _) rfl ?_
    rintro _ _ ⟨rfl, hLL⟩
    obtain rfl := hLL.symm
    refine vl_det (det_move rfl) rfl ?_
    refine vl_det (det_extract rfl rfl) rfl ?_
    refine vl_det (det_extract rfl rfl) rfl ?_
    refine vl_det (det_assign rfl) rfl ?_
    refine vl_det (det_assign rfl) rfl ?_
    refine vl_end [(0, _), (3, _), (4, _)] ⟨rfl, rfl, rfl, trivial⟩ ?_
    refine then_next ?_
    refine vc_seq ?_
    refine vc_region ?_
    refine vl_det (det_move rfl) rfl ?_
    refine vl_det (det_move rfl) rfl ?_
    refine vl_guard rfl rfl rfl (fun h20 => ?_) (fun h20 => ?_)
    · skip
      refine vl_det (det_move rfl) rfl ?_
      refine vl_guard_t rfl rfl ?_
      refine vl_det (det_move rfl) rfl ?_
      refine vl_guard_t rfl rfl ?_
      refine vl_det (det_s_eql rfl rfl) rfl ?_
      refine vl_det (det_pick_t rfl rfl) rfl ?_
      refine vl_det (det_assign rfl) rfl ?_
      refine vl_end [(2, _)] ⟨rfl, trivial⟩ ?_
      refine then_next ?_
      refine vc_ret ?_
      refine ret1 rfl rfl ?_
      unfold termL; simp_all
    · skip
      refine vl_guard_f rfl rfl rfl rfl ?_
      refine vl_guard_f rfl rfl rfl rfl ?_
      refine vl_det (det_pick_f rfl rfl) rfl ?_
      refine vl_det (det_assign rfl) rfl ?_
      refine vl_end [(2, _)] ⟨rfl, trivial⟩ ?_
      refine then_next ?_
      refine vc_ret ?_
      refine ret1 rfl rfl ?_
      unfold termL; simp_all
end Go.Proofs.Ytfooomfdokkiaaa
