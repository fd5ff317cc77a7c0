/-
  What nums.Zig, nums.Zag, the reference's and the law's example compute. Conditions: numbers fit 64 bits.
-/
import Derived.Test.YtejibnkgenonfaaNum
import Derived.Test.YtejibnkgenonfaaZigPure
namespace Go.Proofs.Ytejibnkgenonfaa
open Go.RowKit
set_option linter.unusedVariables false
theorem ret_int {k : IntKind} {a b : Int} (h : a = b) : Ending.returned (.int k a) = .returned (.int k b) := by rw [h]
theorem ret_bool {a b : Bool} (h : a = b) : Ending.returned (.bool a) = .returned (.bool b) := by rw [h]
theorem zig_c (x : Nat) (hx : x < 18446744073709551616) (w : World) :
    Calls Try.prog 12 #[.int .u64 x] w fun e w' => e = .returned (.int .u64 (zig x : Nat)) ∧ w = w' := by
  have hz := zig_bits x hx
  go_enter Try.func12, Try.ntmps12
  go_wp2
  go_ret
  exact ⟨rfl, rfl⟩
set_option maxRecDepth 100000 in
theorem zag_c (x : Nat) (hx : x < 18446744073709551616) (w : World) :
    Calls Try.prog 14 #[.int .u64 x] w fun e w' => e = .returned (.int .u64 (zag x : Nat)) ∧ w = w' := by
  have hz := Lib.hid (zag_bits x hx)
  go_enter Try.func14, Try.ntmps14
  go_wp2
  go_ret
  exact ⟨ret_int hz.out, rfl⟩
def rzigI (x : Int) : Int := if 9223372036854775808 ≤ x then IntKind.u64.wrap (IntKind.u64.wrap (2 * IntKind.u64.wrap (18446744073709551615 - x)) + 1) else IntKind.u64.wrap (2 * x)
theorem rzig_i (x : Int) (w : World) :
    Calls Try.prog 13 #[.int .u64 x] w fun e w' => e = .returned (.int .u64 (rzigI x)) ∧ w = w' := by
  go_enter Try.func13, Try.ntmps13
  go_wp2
  · go_ret
    have h : (9223372036854775808 : Int) ≤ x := by assumption
    exact ⟨ret_int (by unfold rzigI; rw [if_pos h]), rfl⟩
  · go_ret
    have h : x < 9223372036854775808 := by assumption
    exact ⟨ret_int (by unfold rzigI; rw [if_neg (by omega)]), rfl⟩
theorem rzigI_nat (x : Nat) (hx : x < 18446744073709551616) : rzigI (x : Int) = ((zig x : Nat) : Int) := by
  unfold rzigI
  by_cases h : 9223372036854775808 ≤ (x : Int)
  · rw [if_pos h, rzig_hi x hx (by omega)]
  · rw [if_neg h, rzig_lo x (by omega)]
theorem rzig_c (x : Nat) (hx : x < 18446744073709551616) (w : World) :
    Calls Try.prog 13 #[.int .u64 x] w fun e w' => e = .returned (.int .u64 (zig x : Nat)) ∧ w = w' := by
  have h := rzig_i (x : Int) w
  rw [rzigI_nat x hx] at h
  exact h
set_option maxRecDepth 100000 in
theorem rzag_c (x : Nat) (hx : x < 18446744073709551616) (w : World) :
    Calls Try.prog 15 #[.int .u64 x] w fun e w' => e = .returned (.int .u64 (zag x : Nat)) ∧ w = w' := by
  by_cases h : x % 2 = 1
  · have hz : Hid (zag x = 18446744073709551615 - x / 2) := by unfold zag; rw [if_pos h]; exact rfl
    go_enter Try.func15, Try.ntmps15
    go_wp2
    go_ret
    exact ⟨ret_int (by rw [hz.out]; omega), rfl⟩
  · have hz : Hid (zag x = x / 2) := by unfold zag; rw [if_neg h]; exact rfl
    go_enter Try.func15, Try.ntmps15
    go_wp2
    go_ret
    exact ⟨ret_int (by rw [hz.out]; omega), rfl⟩
theorem own_two {w : World} {base : Nat} {e : TypeId} {v : Value} {x y : Value} (h : w.ownsRow base e 1 v 2 [x, y]) :
    ∃ g c, v = .slice (some ⟨g, 0, none⟩) 2 c ∧ w.cell? ⟨g, 0, none⟩ = some x ∧ w.cell? ⟨g, 1, none⟩ = some y := by
  have hc := fun g hg => h.cells (g := g) hg
  rcases h.2 with ⟨_, h0⟩ | ⟨g, cap, cur, rfl, _⟩
  · cases h0
  · exact ⟨g, cap, rfl, hc g rfl 0 x rfl, hc g rfl 1 y rfl⟩
theorem enc300 : encN 300 = [172, 2] := by rw [encN_ge (by omega), encN_lt (by omega)]; rfl
set_option maxRecDepth 100000 in
theorem alive_c (w : World) :
    Calls Try.prog 11 #[] w fun e w' => e = .returned (.bool true) ∧ Below w.heap.size w w' := by
  go_enter Try.func11, Try.ntmps11
  go_wp2_with (first | (go_at_call 19; refine (num_c 300 (by omega) _).mono ?_; rintro e w1 ⟨v1, rfl, hown, hb⟩; rw [enc300] at hown; obtain ⟨g, c, rfl, hc0, hc1⟩ := own_two hown))
  go_ret
  exact ⟨rfl, hb⟩
end Go.Proofs.Ytejibnkgenonfaa
