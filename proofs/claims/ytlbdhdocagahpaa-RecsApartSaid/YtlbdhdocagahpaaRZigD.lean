/-
  The document's Zig and both Zags, by frames. No condition.
-/
import Derived.Test.YtlbdhdocagahpaaZigD
namespace Go.Proofs.Ytlbdhdocagahpaa
open Go.RowKit
set_option linter.unusedVariables false
set_option maxRecDepth 20000
variable {B : Nat} {w0 : World} {F : List Ch}
theorem rzig_d (x : Nat) (hx : x < 18446744073709551616) : Does Try.prog B w0 47 [.int .u64 x] F (fun r L => r = .int .u64 (zig x) ∧ L = F) := by
  refine fn_walk Try.func47 11 rfl rfl rfl [(0, .int .u64 x)] ⟨⟨rfl, rfl⟩, trivial⟩ ?_
  refine vc_seq ?_
  refine vc_region ?_
  refine vl_det (det_assign rfl) rfl ?_
  refine vl_end [(0, _)] ⟨rfl, trivial⟩ ?_
  refine then_next ?_
  refine vc_seq ?_
  refine vc_seq ?_
  refine vc_region ?_
  refine vl_det (det_move rfl) rfl ?_
  refine vl_det (det_geq rfl rfl) rfl ?_
  refine vl_end [(0, _), (4, _)] ⟨rfl, rfl, trivial⟩ ?_
  refine then_next ?_
  refine vc_decideU rfl (fun h4 => ?_) (fun h4 => ?_)
  · skip
    refine vc_seq ?_
    refine vc_region ?_
    refine vl_det (det_move rfl) rfl ?_
    refine vl_det (det_sub rfl rfl rfl) rfl ?_
    refine vl_det (det_mul rfl rfl rfl) rfl ?_
    refine vl_det (det_add rfl rfl rfl) rfl ?_
    refine vl_det (det_assign rfl) rfl ?_
    refine vl_end [(2, _)] ⟨rfl, trivial⟩ ?_
    refine then_next ?_
    refine vc_ret ?_
    refine then_ret ?_
    refine ret1 rfl rfl ?_
    exact ⟨by rw [← rzig_hi x hx (by omega)], rfl⟩
  · skip
    refine vc_skip ?_
    refine then_next ?_
    refine vc_seq ?_
    refine vc_region ?_
    refine vl_det (det_move rfl) rfl ?_
    refine vl_det (det_mul rfl rfl rfl) rfl ?_
    refine vl_det (det_assign rfl) rfl ?_
    refine vl_end [(2, _)] ⟨rfl, trivial⟩ ?_
    refine then_next ?_
    refine vc_ret ?_
    refine ret1 rfl rfl ?_
    exact ⟨by rw [← rzig_lo x (by omega)], rfl⟩
theorem zsr (x : Nat) : (x : Int).fdiv (2 ^ min (1 : Int).toNat IntKind.u64.bits) = (x : Int) / 2 := by
  have e : min (1 : Int).toNat IntKind.u64.bits = 1 := by decide
  rw [e, Int.fdiv_eq_ediv_of_nonneg _ (by decide)]
  rfl
theorem zan (x : Nat) (hx : x < 18446744073709551616) : IntKind.u64.wrap ((BitVec.ofInt IntKind.u64.bits (x : Int) &&& BitVec.ofInt IntKind.u64.bits 1).toNat : Int) = ((x % 2 : Nat) : Int) := by
  have := u64_and x 1 hx (by omega)
  rw [Nat.and_one_is_mod] at this
  exact this
theorem zng2 (x : Nat) : IntKind.u64.wrap (0 - ((x % 2 : Nat) : Int)) = IntKind.u64.wrap (-((x % 2 : Nat) : Int)) := by rw [Int.zero_sub]
theorem zax (x : Nat) (hx : x < 18446744073709551616) : IntKind.u64.wrap ((BitVec.ofInt IntKind.u64.bits ((x : Int) / 2) ^^^ BitVec.ofInt IntKind.u64.bits (IntKind.u64.wrap (-((x % 2 : Nat) : Int)))).toNat : Int) = ((zag x : Nat) : Int) := by
  have h := zag_bits x hx
  have ea : bits .and .u64 (x : Int) 1 = ((x % 2 : Nat) : Int) := zan x hx
  rw [ea] at h
  exact h
theorem zag_d (x : Nat) (hx : x < 18446744073709551616) : Does Try.prog B w0 64 [.int .u64 x] F (fun r L => r = .int .u64 (zag x) ∧ L = F) := by
  refine fn_walk Try.func64 9 rfl rfl rfl [(0, .int .u64 x)] ⟨⟨rfl, rfl⟩, trivial⟩ ?_
  refine vc_seq ?_
  refine vc_region ?_
  refine vl_det (det_assign rfl) rfl ?_
  refine vl_end [(0, _)] ⟨rfl, trivial⟩ ?_
  refine then_next ?_
  refine vc_seq ?_
  refine vc_region ?_
  refine vl_det (det_move rfl) rfl ?_
  refine vl_det (det_shr rfl rfl (by omega) (zsr x)) rfl ?_
  refine vl_det (det_move rfl) rfl ?_
  refine vl_det (det_and rfl rfl (zan x hx)) rfl ?_
  refine vl_det (det_neg rfl (zng2 x)) rfl ?_
  refine vl_det (det_xor rfl rfl (zax x hx)) rfl ?_
  refine vl_det (det_assign rfl) rfl ?_
  refine vl_end [(2, _)] ⟨rfl, trivial⟩ ?_
  refine then_next ?_
  refine vc_ret ?_
  refine ret1 rfl rfl ?_
  exact ⟨rfl, rfl⟩
theorem tm2 (x : Nat) : (x : Int).tmod 2 = ((x % 2 : Nat) : Int) := (Int.ofNat_tmod x 2).symm
theorem qu2 (x : Nat) (hx : x < 18446744073709551616) : IntKind.u64.wrap ((x : Int).tdiv 2) = ((x / 2 : Nat) : Int) := by
  have e : (x : Int).tdiv 2 = ((x / 2 : Nat) : Int) := (Int.ofNat_tdiv x 2).symm
  rw [e]; exact w_u64 (by omega) (by omega)
theorem rzag_d (x : Nat) (hx : x < 18446744073709551616) : Does Try.prog B w0 51 [.int .u64 x] F (fun r L => r = .int .u64 (zag x) ∧ L = F) := by
  refine fn_walk Try.func51 11 rfl rfl rfl [(0, .int .u64 x)] ⟨⟨rfl, rfl⟩, trivial⟩ ?_
  refine vc_seq ?_
  refine vc_region ?_
  refine vl_det (det_assign rfl) rfl ?_
  refine vl_end [(0, _)] ⟨rfl, trivial⟩ ?_
  refine then_next ?_
  refine vc_seq ?_
  refine vc_seq ?_
  refine vc_region ?_
  refine vl_det (det_move rfl) rfl ?_
  refine vl_det (det_rem rfl rfl (by omega) (tm2 x)) rfl ?_
  refine vl_det (det_eql rfl rfl) rfl ?_
  refine vl_end [(0, _), (5, _)] ⟨rfl, rfl, trivial⟩ ?_
  refine then_next ?_
  refine vc_decideU rfl (fun h5 => ?_) (fun h5 => ?_)
  · skip
    refine vc_seq ?_
    refine vc_region ?_
    refine vl_det (det_move rfl) rfl ?_
    refine vl_det (det_quo rfl rfl (by omega) (qu2 x hx)) rfl ?_
    refine vl_det (det_sub rfl rfl (w_u64 (by omega) (by omega))) rfl ?_
    refine vl_det (det_assign rfl) rfl ?_
    refine vl_end [(2, _)] ⟨rfl, trivial⟩ ?_
    refine then_next ?_
    refine vc_ret ?_
    refine then_ret ?_
    refine ret1 rfl rfl ?_
    have e : zag x = 18446744073709551615 - x / 2 := by unfold zag; rw [if_pos (by omega)]
    exact ⟨by rw [e, Int.ofNat_sub (by omega)]; rfl, rfl⟩
  · skip
    refine vc_skip ?_
    refine then_next ?_
    refine vc_seq ?_
    refine vc_region ?_
    refine vl_det (det_move rfl) rfl ?_
    refine vl_det (det_quo rfl rfl (by omega) (qu2 x hx)) rfl ?_
    refine vl_det (det_assign rfl) rfl ?_
    refine vl_end [(2, _)] ⟨rfl, trivial⟩ ?_
    refine then_next ?_
    refine vc_ret ?_
    refine ret1 rfl rfl ?_
    have e : zag x = x / 2 := by unfold zag; rw [if_neg (by omega)]
    exact ⟨by rw [e], rfl⟩
end Go.Proofs.Ytlbdhdocagahpaa
