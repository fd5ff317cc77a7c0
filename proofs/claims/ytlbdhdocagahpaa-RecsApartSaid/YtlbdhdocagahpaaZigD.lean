/-
  nums.Zig, by frames. No condition.
-/
import Derived.Test.YtlbdhdocagahpaaTypes
import Derived.Test.YtlbdhdocagahpaaZigPure
namespace Go.Proofs.Ytlbdhdocagahpaa
open Go.RowKit
set_option linter.unusedVariables false
variable {B : Nat} {w0 : World} {F : List Ch}
theorem zsh (x : Nat) : IntKind.u64.wrap ((x : Int) * 2 ^ min (1 : Int).toNat IntKind.u64.bits) = IntKind.u64.wrap ((x : Int) * 2) := by
  have e : min (1 : Int).toNat IntKind.u64.bits = 1 := by decide
  rw [e]; rfl
theorem zhi (x : Nat) : (x : Int).fdiv (2 ^ min (63 : Int).toNat IntKind.u64.bits) = (x : Int) / 9223372036854775808 := by
  have e : min (63 : Int).toNat IntKind.u64.bits = 63 := by decide
  rw [e, Int.fdiv_eq_ediv_of_nonneg _ (by decide)]
  rfl
theorem zng (x : Nat) : IntKind.u64.wrap (0 - (x : Int) / 9223372036854775808) = IntKind.u64.wrap (-((x : Int) / 9223372036854775808)) := by rw [Int.zero_sub]
theorem zxor (x : Nat) (hx : x < 18446744073709551616) : IntKind.u64.wrap ((BitVec.ofInt IntKind.u64.bits (IntKind.u64.wrap ((x : Int) * 2)) ^^^ BitVec.ofInt IntKind.u64.bits (IntKind.u64.wrap (-((x : Int) / 9223372036854775808)))).toNat : Int) = ((zig x : Nat) : Int) := zig_bits x hx
set_option maxRecDepth 20000 in
theorem zig_d (x : Nat) (hx : x < 18446744073709551616) : Does Try.prog B w0 45 [.int .u64 x] F (fun r L => r = .int .u64 (zig x) ∧ L = F) := by
  refine fn_walk Try.func45 9 rfl rfl rfl [(0, .int .u64 x)] ⟨⟨rfl, rfl⟩, trivial⟩ ?_
  refine vc_seq ?_
  refine vc_region ?_
  refine vl_det (det_assign rfl) rfl ?_
  refine vl_end [(0, _)] ⟨rfl, trivial⟩ ?_
  refine then_next ?_
  refine vc_seq ?_
  refine vc_region ?_
  refine vl_det (det_move rfl) rfl ?_
  refine vl_det (det_shl rfl rfl (by omega) (zsh x)) rfl ?_
  refine vl_det (det_move rfl) rfl ?_
  refine vl_det (det_shr rfl rfl (by omega) (zhi x)) rfl ?_
  refine vl_det (det_neg rfl (zng x)) rfl ?_
  refine vl_det (det_xor rfl rfl (zxor x hx)) rfl ?_
  refine vl_det (det_assign rfl) rfl ?_
  refine vl_end [(2, _)] ⟨rfl, trivial⟩ ?_
  refine then_next ?_
  refine vc_ret ?_
  refine ret1 rfl rfl ?_
  exact ⟨rfl, rfl⟩
end Go.Proofs.Ytlbdhdocagahpaa
