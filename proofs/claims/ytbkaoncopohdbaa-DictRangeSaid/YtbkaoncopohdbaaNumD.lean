/-
  nums.Num, by frames. No condition.
-/
import Derived.Test.YtbkaoncopohdbaaTypes
import Derived.Test.YtbkaoncopohdbaaNumPure
import Derived.Test.YtbkaoncopohdbaaBits
namespace Go.Proofs.Ytbkaoncopohdbaa
open Go.RowKit
set_option linter.unusedVariables false
set_option maxRecDepth 20000
variable {B : Nat} {w0 : World} {F : List Ch}
theorem enc_more {x k : Nat} {pre : List UInt8} (h : encN x = pre ++ encN k) (hk : 128 ≤ k) : encN x = (pre ++ [UInt8.ofNat (128 + k % 128)]) ++ encN (k / 128) := by
  rw [h, encN_ge hk]; simp
theorem enc_last {x k : Nat} {pre : List UInt8} (h : encN x = pre ++ encN k) (hk : k < 128) : encN x = pre ++ [UInt8.ofNat k] := by
  rw [h, encN_lt hk]
theorem enc_pre {x k : Nat} {pre : List UInt8} (h : encN x = pre ++ encN k) (hx : x < 18446744073709551616) : pre.length ≤ 10 := by
  have h1 := congrArg List.length h
  have h2 := encN_len10 hx
  rw [List.length_append] at h1
  omega
theorem bv_pushN {v : Nat} (hv : v < 256) (l : List UInt8) : bv l ++ [Value.int .u8 (v : Int)] = bv (l ++ [UInt8.ofNat v]) := by
  have : (UInt8.ofNat v).toNat = v := by rw [UInt8.toNat_ofNat']; exact Nat.mod_eq_of_lt hv
  simp [bv, this]
theorem low8 (k : Nat) : IntKind.u8.wrap (k : Int) = ((k % 256 : Nat) : Int) := by show (k : Int) % 256 = _; omega
theorem or128 (k : Nat) : IntKind.u8.wrap ((BitVec.ofInt IntKind.u8.bits ((k % 256 : Nat) : Int) ||| BitVec.ofInt IntKind.u8.bits 128).toNat : Int) = ((128 + k % 128 : Nat) : Int) := by
  have h := u8_or (k % 256) 128 (by omega) (by omega)
  rw [show ((128 : Nat) : Int) = 128 from rfl] at h
  have e := or_128 (k % 256) (by omega)
  refine (Eq.trans h ?_)
  rw [e]; omega
theorem shr7 (k : Nat) : (k : Int).fdiv (2 ^ min (7 : Int).toNat IntKind.u64.bits) = ((k / 128 : Nat) : Int) := by
  have e : min (7 : Int).toNat IntKind.u64.bits = 7 := by decide
  rw [e, Int.fdiv_eq_ediv_of_nonneg _ (by decide)]
  rfl
set_option maxRecDepth 20000 in
theorem num_d (x : Nat) (hx : x < 18446744073709551616) : Does Try.prog B w0 26 [.int .u64 x] F (fun r L => ∃ A c, r = .slice A (encN x).length c ∧ L = .own 5 1 A (encN x).length c (bv (encN x)) :: F) := by
  refine fn_walk Try.func26 19 rfl rfl rfl [(0, .int .u64 x)] ⟨⟨rfl, rfl⟩, trivial⟩ ?_
  refine vc_seq ?_
  refine vc_region ?_
  refine vl_det (det_assign rfl) rfl ?_
  refine vl_end [(0, _)] ⟨rfl, trivial⟩ ?_
  refine then_next ?_
  refine vc_seq ?_
  refine vc_nil_row 5 1 none ?_
  refine vc_region ?_
  refine vl_det (det_assign rfl) rfl ?_
  refine vl_end [(0, _), (3, _)] ⟨rfl, rfl, trivial⟩ ?_
  refine then_next ?_
  refine vc_seq ?_
  refine vc_block ?_
  refine vc_loopJ (fun zf zL zm => ∃ (k : Nat) (pre : List UInt8) (A3 : Option Addr) (c3 : Nat), (k ≤ x ∧ encN x = pre ++ encN k) ∧ k = zm ∧ Sub zf [(0, .int .u64 k), (3, .slice A3 pre.length c3)] ∧ Wk zL (.own 5 1 A3 pre.length c3 (bv pre) :: F)) _ ⟨x, [], none, 0, ⟨Nat.le_refl _, by simp⟩, rfl, ⟨(by first | rfl | exact int_to (by omega) | exact sl_to (by omega)), (by first | rfl | exact int_to (by omega) | exact sl_to (by omega)), trivial⟩, wk_own rfl rfl (.refl _)⟩ ?_
  rintro _ _ _ ⟨k, pre, A3, c3, ⟨hk, he⟩, rfl, hs, hp⟩
  refine vc_weaken _ hs (vc_wk hp ?_)
  clear hs hp
  have hpl := enc_pre he hx
  refine vc_seq ?_
  refine vc_seq ?_
  refine vc_region ?_
  refine vl_det (det_move rfl) rfl ?_
  refine vl_det (det_geq rfl rfl) rfl ?_
  refine vl_end [(0, _), (3, _), (5, _)] ⟨rfl, rfl, rfl, trivial⟩ ?_
  refine then_next ?_
  refine vc_decideU rfl (fun h5 => ?_) (fun h5 => ?_)
  · skip
    have hl := (show (pre ++ [UInt8.ofNat (128 + k % 128)]).length = pre.length + 1 by simp)
    refine vc_skip ?_
    refine then_next ?_
    refine vc_block ?_
    refine vc_seq ?_
    refine vc_region ?_
    refine vl_det (det_move rfl) rfl ?_
    refine vl_det (det_move rfl) rfl ?_
    refine vl_det (det_conv Try.underlying54 Try.underlying5 rfl (low8 k)) rfl ?_
    refine vl_det (det_or rfl rfl (or128 k)) rfl ?_
    refine vl_push slT25 rfl rfl rfl rfl rfl (fun _ => rfl) (by repeat (first | exact .hd | apply Sel.tl)) (by omega) (by omega) ?_
    intro _ A11 c11
    rw [← hl]
    refine vl_det (det_assign rfl) rfl ?_
    refine vl_end [(0, _), (3, _)] ⟨rfl, rfl, trivial⟩ ?_
    refine then_next ?_
    refine vc_region ?_
    refine vl_det (det_move rfl) rfl ?_
    refine vl_det (det_shr rfl rfl (by omega) (shr7 k)) rfl ?_
    refine vl_det (det_assign rfl) rfl ?_
    refine vl_end [(0, _), (3, _)] ⟨rfl, rfl, trivial⟩ ?_
    refine in_normal ?_
    refine in_loop_ ⟨_, by omega, k / 128, pre ++ [UInt8.ofNat (128 + k % 128)], A11, c11, ⟨by omega, enc_more he (by omega)⟩, rfl, ⟨(by first | rfl | exact int_to (by omega) | exact sl_to (by omega)), (by first | rfl | exact int_to (by omega) | exact sl_to (by omega)), trivial⟩, wk_own rfl (bv_pushN (by omega) pre) (.refl _)⟩
  · skip
    have hl := (show (pre ++ [UInt8.ofNat k]).length = pre.length + 1 by simp)
    refine vc_exit ?_
    refine then_exit ?_
    refine loop_exit ?_
    refine in_eq ?_
    refine then_next ?_
    refine vc_seq ?_
    refine vc_region ?_
    refine vl_det (det_move rfl) rfl ?_
    refine vl_det (det_move rfl) rfl ?_
    refine vl_det (det_conv Try.underlying54 Try.underlying5 rfl (w_u8 (by omega) (by omega))) rfl ?_
    refine vl_push slT25 rfl rfl rfl rfl rfl (fun _ => rfl) (by repeat (first | exact .hd | apply Sel.tl)) (by omega) (by omega) ?_
    intro _ A18 c18
    rw [← hl]
    refine vl_det (det_assign rfl) rfl ?_
    refine vl_end [(2, _)] ⟨rfl, trivial⟩ ?_
    refine then_next ?_
    refine vc_ret ?_
    have hel := enc_last he (by omega)
    rw [hel]
    refine ret_wk (wk_own rfl (bv_pushN (by omega) pre) (.refl _)) ?_
    refine ret1 rfl rfl ?_
    exact ⟨A18, c18, rfl, rfl⟩
end Go.Proofs.Ytbkaoncopohdbaa
