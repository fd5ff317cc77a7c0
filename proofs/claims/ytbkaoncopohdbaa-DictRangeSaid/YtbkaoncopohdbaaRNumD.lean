/-
  The document's Num, by frames. No condition.
-/
import Derived.Test.YtbkaoncopohdbaaNumD
namespace Go.Proofs.Ytbkaoncopohdbaa
open Go.RowKit
set_option linter.unusedVariables false
set_option maxRecDepth 20000
variable {B : Nat} {w0 : World} {F : List Ch}
theorem tmodR (n : Nat) : (n : Int).tmod 128 = ((n % 128 : Nat) : Int) := by rw [Int.tmod_eq_emod_of_nonneg (by omega)]; omega
theorem tdivR {n : Nat} (h : n < 18446744073709551616) : IntKind.u64.wrap ((n : Int).tdiv 128) = ((n / 128 : Nat) : Int) := by
  have e : (n : Int).tdiv 128 = ((n / 128 : Nat) : Int) := (Int.ofNat_tdiv n 128).symm
  rw [e]; exact w_u64 (by omega) (by omega)
set_option maxRecDepth 20000 in
theorem rnum_d (x : Nat) (hx : x < 18446744073709551616) : Does Try.prog B w0 30 [.int .u64 x] F (fun r L => ∃ A c, r = .slice A (encN x).length c ∧ L = .own 5 1 A (encN x).length c (bv (encN x)) :: F) := by
  refine fn_walk Try.func30 20 rfl rfl rfl [(0, .int .u64 x)] ⟨⟨rfl, rfl⟩, trivial⟩ ?_
  refine vc_seq ?_
  refine vc_region ?_
  refine vl_det (det_assign rfl) rfl ?_
  refine vl_end [(0, _)] ⟨rfl, trivial⟩ ?_
  refine then_next ?_
  refine vc_seq ?_
  refine vc_nil_row 5 1 none ?_
  refine vc_region ?_
  refine vl_det (det_assign rfl) rfl ?_
  refine vl_end [(0, _), (3, _)] ⟨rfl, rfl, trivial⟩ ?_
  refine then_next ?_
  refine vc_seq ?_
  refine vc_block ?_
  refine vc_loopJ (fun zf zL zm => ∃ (k : Nat) (pre : List UInt8) (A3 : Option Addr) (c3 : Nat), (k ≤ x ∧ encN x = pre ++ encN k) ∧ k = zm ∧ Sub zf [(0, .int .u64 k), (3, .slice A3 pre.length c3)] ∧ Wk zL (.own 5 1 A3 pre.length c3 (bv pre) :: F)) _ ⟨x, [], none, 0, ⟨Nat.le_refl _, by simp⟩, rfl, ⟨(by first | rfl | exact int_to (by omega) | exact sl_to (by omega)), (by first | rfl | exact int_to (by omega) | exact sl_to (by omega)), trivial⟩, wk_own rfl rfl (.refl _)⟩ ?_
  rintro _ _ _ ⟨k, pre, A3, c3, ⟨hk, he⟩, rfl, hs, hp⟩
  refine vc_weaken _ hs (vc_wk hp ?_)
  clear hs hp
  have hpl := enc_pre he hx
  refine vc_seq ?_
  refine vc_seq ?_
  refine vc_region ?_
  refine vl_det (det_move rfl) rfl ?_
  refine vl_det (det_geq rfl rfl) rfl ?_
  refine vl_end [(0, _), (3, _), (5, _)] ⟨rfl, rfl, rfl, trivial⟩ ?_
  refine then_next ?_
  refine vc_decideU rfl (fun h5 => ?_) (fun h5 => ?_)
  · skip
    have hl := (show (pre ++ [UInt8.ofNat (128 + k % 128)]).length = pre.length + 1 by simp)
    refine vc_skip ?_
    refine then_next ?_
    refine vc_block ?_
    refine vc_seq ?_
    refine vc_region ?_
    refine vl_det (det_move rfl) rfl ?_
    refine vl_det (det_move rfl) rfl ?_
    refine vl_det (det_rem rfl rfl (by omega) (tmodR k)) rfl ?_
    refine vl_det (det_add rfl rfl (r := ((128 + k % 128 : Nat) : Int)) ((w_u64 (by omega) (by omega)).trans (by omega))) rfl ?_
    refine vl_det (det_conv Try.underlying54 Try.underlying5 rfl (w_u8 (by omega) (by omega))) rfl ?_
    refine vl_push slT25 rfl rfl rfl rfl rfl (fun _ => rfl) (by repeat (first | exact .hd | apply Sel.tl)) (by omega) (by omega) ?_
    intro _ A12 c12
    rw [← hl]
    refine vl_det (det_assign rfl) rfl ?_
    refine vl_end [(0, _), (3, _)] ⟨rfl, rfl, trivial⟩ ?_
    refine then_next ?_
    refine vc_region ?_
    refine vl_det (det_move rfl) rfl ?_
    refine vl_det (det_quo rfl rfl (by omega) (tdivR (by omega))) rfl ?_
    refine vl_det (det_assign rfl) rfl ?_
    refine vl_end [(0, _), (3, _)] ⟨rfl, rfl, trivial⟩ ?_
    refine in_normal ?_
    refine in_loop_ ⟨_, by omega, k / 128, pre ++ [UInt8.ofNat (128 + k % 128)], A12, c12, ⟨by omega, enc_more he (by omega)⟩, rfl, ⟨(by first | rfl | exact int_to (by omega) | exact sl_to (by omega)), (by first | rfl | exact int_to (by omega) | exact sl_to (by omega)), trivial⟩, wk_own rfl (bv_pushN (by omega) pre) (.refl _)⟩
  · skip
    have hl := (show (pre ++ [UInt8.ofNat k]).length = pre.length + 1 by simp)
    refine vc_exit ?_
    refine then_exit ?_
    refine loop_exit ?_
    refine in_eq ?_
    refine then_next ?_
    refine vc_seq ?_
    refine vc_region ?_
    refine vl_det (det_move rfl) rfl ?_
    refine vl_det (det_move rfl) rfl ?_
    refine vl_det (det_conv Try.underlying54 Try.underlying5 rfl (w_u8 (by omega) (by omega))) rfl ?_
    refine vl_push slT25 rfl rfl rfl rfl rfl (fun _ => rfl) (by repeat (first | exact .hd | apply Sel.tl)) (by omega) (by omega) ?_
    intro _ A19 c19
    rw [← hl]
    refine vl_det (det_assign rfl) rfl ?_
    refine vl_end [(2, _)] ⟨rfl, trivial⟩ ?_
    refine then_next ?_
    refine vc_ret ?_
    have hel := enc_last he (by omega)
    rw [hel]
    refine ret_wk (wk_own rfl (bv_pushN (by omega) pre) (.refl _)) ?_
    refine ret1 rfl rfl ?_
    exact ⟨A19, c19, rfl, rfl⟩
end Go.Proofs.Ytbkaoncopohdbaa
