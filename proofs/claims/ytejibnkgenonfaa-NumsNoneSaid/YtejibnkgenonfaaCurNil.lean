/-
  What the methods of a cursor compute of no cursor (nil). No condition.
-/
import Derived.Test.YtejibnkgenonfaaZig
namespace Go.Proofs.Ytejibnkgenonfaa
open Go.RowKit
set_option linter.unusedVariables false
theorem nil_fail (w : World) (er : Int) : Calls Try.prog 27 #[.pointer none, .int .i64 er] w fun e w' => e = .returned (.tuple #[]) ∧ w = w' := by
  go_enter Try.func27, Try.ntmps27
  go_wp2
  go_end0
  exact ⟨rfl, rfl⟩
theorem nil_err (w : World) : Calls Try.prog 33 #[.pointer none] w fun e w' => e = .returned (.int .i64 13) ∧ w = w' := by
  go_enter Try.func33, Try.ntmps33
  go_wp2
  go_ret
  exact ⟨rfl, rfl⟩
theorem nil_at (w : World) : Calls Try.prog 34 #[.pointer none] w fun e w' => e = .returned (.int .i64 0) ∧ w = w' := by
  go_enter Try.func34, Try.ntmps34
  go_wp2
  go_ret
  exact ⟨rfl, rfl⟩
theorem nil_left (w : World) : Calls Try.prog 35 #[.pointer none] w fun e w' => e = .returned (.int .i64 0) ∧ w = w' := by
  go_enter Try.func35, Try.ntmps35
  go_wp2
  go_ret
  exact ⟨rfl, rfl⟩
theorem nil_num (w : World) : Calls Try.prog 25 #[.pointer none] w fun e w' => e = .returned (.int .u64 0) ∧ Below w.heap.size w w' := by
  go_enter Try.func25, Try.ntmps25
  go_wp2
  go_ret
  exact ⟨rfl, (Below.refl _ _).alloc (Nat.le_refl _) _⟩
theorem nil_int (w : World) (n : Int) : Calls Try.prog 28 #[.pointer none, .int .i64 n] w fun e w' => e = .returned (.int .i64 0) ∧ Below w.heap.size w w' := by
  go_enter Try.func28, Try.ntmps28
  go_wp2
  go_ret
  exact ⟨rfl, ((Below.refl _ _).alloc (Nat.le_refl _) _).alloc (by simp) _⟩
theorem nil_take (w : World) (n : Int) : Calls Try.prog 31 #[.pointer none, .int .i64 n] w fun e w' => e = .returned (.slice none 0 0) ∧ Below w.heap.size w w' := by
  go_enter Try.func31, Try.ntmps31
  go_wp2
  go_ret
  exact ⟨rfl, ((Below.refl _ _).alloc (Nat.le_refl _) _).alloc (by simp) _⟩
theorem nil_text (w : World) (n : Int) : Calls Try.prog 32 #[.pointer none, .int .i64 n] w fun e w' => e = .returned (.string ⟨#[]⟩) ∧ Below w.heap.size w w' := by
  go_enter Try.func32, Try.ntmps32
  go_wp2
  go_ret
  exact ⟨rfl, ((Below.refl _ _).alloc (Nat.le_refl _) _).alloc (by simp) _⟩
theorem nil_byte (w : World) : Calls Try.prog 29 #[.pointer none] w fun e w' => e = .returned (.int .u8 0) ∧ Below w.heap.size w w' := by
  go_enter Try.func29, Try.ntmps29
  go_wp2_with (go_at_call 31; refine (nil_take _ 1).mono ?_; rintro e w1 ⟨rfl, hb⟩)
  go_ret
  exact ⟨rfl, hb⟩
theorem nil_end (w : World) : Calls Try.prog 26 #[.pointer none] w fun e w' => e = .returned (.int .i64 13) ∧ w = w' := by
  go_enter Try.func26, Try.ntmps26
  go_wp2_with (first | (go_at_call 35; refine (nil_left _).mono ?_; rintro e w1 ⟨rfl, rfl⟩) | (go_at_call 33; refine (nil_err _).mono ?_; rintro e w1 ⟨rfl, rfl⟩))
  go_ret
  exact ⟨rfl, rfl⟩
theorem nil_fixed (w : World) (n : Int) : Calls Try.prog 30 #[.pointer none, .int .i64 n] w fun e w' => e = .returned (.int .u64 0) ∧ Below w.heap.size w w' := by
  by_cases h1 : n < 1
  · go_enter Try.func30, Try.ntmps30
    go_wp2_with (go_at_call 27; refine (nil_fail _ 13).mono ?_; rintro e w1 ⟨rfl, rfl⟩)
    go_ret
    exact ⟨rfl, Below.refl _ _⟩
  · by_cases h2 : 8 < n
    · go_enter Try.func30, Try.ntmps30
      go_wp2_with (go_at_call 27; refine (nil_fail _ 13).mono ?_; rintro e w1 ⟨rfl, rfl⟩)
      go_ret
      exact ⟨rfl, Below.refl _ _⟩
    · go_enter Try.func30, Try.ntmps30
      go_wp2_with (go_at_call 31; refine (nil_take _ n).mono ?_; rintro e w1 ⟨rfl, hb⟩)
      refine wp_loop_rounds 1 ?_
      rw [rounds_succ]
      go_wp2
      go_ret
      exact ⟨rfl, hb⟩
end Go.Proofs.Ytejibnkgenonfaa
