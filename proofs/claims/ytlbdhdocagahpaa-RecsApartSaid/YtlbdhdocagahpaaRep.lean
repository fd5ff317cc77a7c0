/-
  slices.Repeat of one byte, by frames. Condition: at most 10^9 times.
-/
import Derived.Test.YtlbdhdocagahpaaNumD
namespace Go.Proofs.Ytlbdhdocagahpaa
open Go.RowKit
set_option linter.unusedVariables false
set_option maxRecDepth 20000
variable {B : Nat} {w0 : World} {F : List Ch} {A : Option Addr} {c : Nat}
theorem and32 (y : Nat) (hy : y < 4294967296) : IntKind.u64.wrap ((BitVec.ofInt IntKind.u64.bits (y : Int) &&& BitVec.ofInt IntKind.u64.bits 4294967295).toNat : Int) = (y : Int) := by
  have h := u64_and y 4294967295 (by omega) (by omega)
  rw [show (4294967295 : Nat) = 2 ^ 32 - 1 from rfl, Nat.and_two_pow_sub_one_eq_mod, Nat.mod_eq_of_lt (show y < 2 ^ 32 from hy)] at h
  exact h
theorem shr32 (y : Nat) (hy : y < 4294967296) : (y : Int).fdiv (2 ^ min (32 : Int).toNat IntKind.u64.bits) = 0 := by
  have e : min (32 : Int).toNat IntKind.u64.bits = 32 := by decide
  rw [e, Int.fdiv_eq_ediv_of_nonneg _ (by decide)]
  omega
theorem mul64_d (y : Nat) (hy : y < 4294967296) : Does Try.prog B w0 80 [.int .u64 1, .int .u64 y] F (fun r L => r = .tuple #[.int .u64 0, .int .u64 y] ∧ L = F) := by
  refine fn_walk Try.func80 51 rfl rfl rfl [(0, .int .u64 1), (1, .int .u64 y)] ⟨⟨rfl, rfl⟩, ⟨rfl, rfl⟩, trivial⟩ ?_
  refine vc_seq ?_
  refine vc_region ?_
  refine vl_det (det_assign rfl) rfl ?_
  refine vl_det (det_assign rfl) rfl ?_
  refine vl_end [(0, _), (1, _)] ⟨rfl, rfl, trivial⟩ ?_
  refine then_next ?_
  refine vc_seq ?_
  refine vc_region ?_
  refine vl_det (det_move rfl) rfl ?_
  refine vl_det (det_and rfl rfl (r := 1) (by decide +kernel)) rfl ?_
  refine vl_det (det_assign rfl) rfl ?_
  refine vl_end [(0, _), (1, _), (6, _)] ⟨rfl, rfl, rfl, trivial⟩ ?_
  refine then_next ?_
  refine vc_seq ?_
  refine vc_region ?_
  refine vl_det (det_move rfl) rfl ?_
  refine vl_det (det_shr rfl rfl (by omega) (r := 0) (by decide +kernel)) rfl ?_
  refine vl_det (det_assign rfl) rfl ?_
  refine vl_end [(0, _), (1, _), (6, _), (7, _)] ⟨rfl, rfl, rfl, rfl, trivial⟩ ?_
  refine then_next ?_
  refine vc_seq ?_
  refine vc_region ?_
  refine vl_det (det_move rfl) rfl ?_
  refine vl_det (det_and rfl rfl (and32 y hy)) rfl ?_
  refine vl_det (det_assign rfl) rfl ?_
  refine vl_end [(0, _), (1, _), (6, _), (7, _), (8, _)] ⟨rfl, rfl, rfl, rfl, rfl, trivial⟩ ?_
  refine then_next ?_
  refine vc_seq ?_
  refine vc_region ?_
  refine vl_det (det_move rfl) rfl ?_
  refine vl_det (det_shr rfl rfl (by omega) (shr32 y hy)) rfl ?_
  refine vl_det (det_assign rfl) rfl ?_
  refine vl_end [(0, _), (1, _), (6, _), (7, _), (8, _), (9, _)] ⟨rfl, rfl, rfl, rfl, rfl, rfl, trivial⟩ ?_
  refine then_next ?_
  refine vc_seq ?_
  refine vc_region ?_
  refine vl_det (det_move rfl) rfl ?_
  refine vl_det (det_move rfl) rfl ?_
  refine vl_det (det_mul rfl rfl (r := (y : Int)) ((w_u64 (by omega) (by omega)).trans (by omega))) rfl ?_
  refine vl_det (det_assign rfl) rfl ?_
  refine vl_end [(0, _), (1, _), (6, _), (7, _), (8, _), (9, _), (10, _)] ⟨rfl, rfl, rfl, rfl, rfl, rfl, rfl, trivial⟩ ?_
  refine then_next ?_
  refine vc_seq ?_
  refine vc_region ?_
  refine vl_det (det_move rfl) rfl ?_
  refine vl_det (det_move rfl) rfl ?_
  refine vl_det (det_mul rfl rfl (r := 0) ((w_u64 (by omega) (by omega)).trans (by omega))) rfl ?_
  refine vl_det (det_move rfl) rfl ?_
  refine vl_det (det_shr rfl rfl (by omega) (shr32 y hy)) rfl ?_
  refine vl_det (det_add rfl rfl (r := 0) (by decide +kernel)) rfl ?_
  refine vl_det (det_assign rfl) rfl ?_
  refine vl_end [(0, _), (1, _), (6, _), (7, _), (9, _), (11, _)] ⟨rfl, rfl, rfl, rfl, rfl, rfl, trivial⟩ ?_
  refine then_next ?_
  refine vc_seq ?_
  refine vc_region ?_
  refine vl_det (det_move rfl) rfl ?_
  refine vl_det (det_and rfl rfl (r := 0) (by decide +kernel)) rfl ?_
  refine vl_det (det_assign rfl) rfl ?_
  refine vl_end [(0, _), (1, _), (6, _), (7, _), (9, _), (11, _), (12, _)] ⟨rfl, rfl, rfl, rfl, rfl, rfl, rfl, trivial⟩ ?_
  refine then_next ?_
  refine vc_seq ?_
  refine vc_region ?_
  refine vl_det (det_move rfl) rfl ?_
  refine vl_det (det_shr rfl rfl (by omega) (r := 0) (by decide +kernel)) rfl ?_
  refine vl_det (det_assign rfl) rfl ?_
  refine vl_end [(0, _), (1, _), (6, _), (7, _), (9, _), (12, _), (13, _)] ⟨rfl, rfl, rfl, rfl, rfl, rfl, rfl, trivial⟩ ?_
  refine then_next ?_
  refine vc_seq ?_
  refine vc_region ?_
  refine vl_det (det_move rfl) rfl ?_
  refine vl_det (det_move rfl) rfl ?_
  refine vl_det (det_move rfl) rfl ?_
  refine vl_det (det_mul rfl rfl (r := 0) (by decide +kernel)) rfl ?_
  refine vl_det (det_add rfl rfl (r := 0) (by decide +kernel)) rfl ?_
  refine vl_det (det_assign rfl) rfl ?_
  refine vl_end [(0, _), (1, _), (7, _), (9, _), (12, _), (13, _)] ⟨rfl, rfl, rfl, rfl, rfl, rfl, trivial⟩ ?_
  refine then_next ?_
  refine vc_seq ?_
  refine vc_region ?_
  refine vl_det (det_move rfl) rfl ?_
  refine vl_det (det_move rfl) rfl ?_
  refine vl_det (det_mul rfl rfl (r := 0) (by decide +kernel)) rfl ?_
  refine vl_det (det_move rfl) rfl ?_
  refine vl_det (det_add rfl rfl (r := 0) (by decide +kernel)) rfl ?_
  refine vl_det (det_move rfl) rfl ?_
  refine vl_det (det_shr rfl rfl (by omega) (r := 0) (by decide +kernel)) rfl ?_
  refine vl_det (det_add rfl rfl (r := 0) (by decide +kernel)) rfl ?_
  refine vl_det (det_assign rfl) rfl ?_
  refine vl_end [(0, _), (1, _), (4, _)] ⟨rfl, rfl, rfl, trivial⟩ ?_
  refine then_next ?_
  refine vc_seq ?_
  refine vc_region ?_
  refine vl_det (det_move rfl) rfl ?_
  refine vl_det (det_move rfl) rfl ?_
  refine vl_det (det_mul rfl rfl (r := (y : Int)) ((w_u64 (by omega) (by omega)).trans (by omega))) rfl ?_
  refine vl_det (det_assign rfl) rfl ?_
  refine vl_end [(4, _), (5, _)] ⟨rfl, rfl, trivial⟩ ?_
  refine then_next ?_
  refine vc_ret ?_
  refine ret2 rfl rfl rfl ?_
  exact ⟨rfl, rfl⟩
theorem mul_d (y : Nat) (hy : y < 4294967296) : Does Try.prog B w0 76 [.int .u64 1, .int .u64 y] F (fun r L => r = .tuple #[.int .u64 0, .int .u64 y] ∧ L = F) := by
  refine fn_walk Try.func76 30 rfl rfl rfl [(0, .int .u64 1), (1, .int .u64 y)] ⟨⟨rfl, rfl⟩, ⟨rfl, rfl⟩, trivial⟩ ?_
  refine vc_seq ?_
  refine vc_region ?_
  refine vl_det (det_assign rfl) rfl ?_
  refine vl_det (det_assign rfl) rfl ?_
  refine vl_end [(0, _), (1, _)] ⟨rfl, rfl, trivial⟩ ?_
  refine then_next ?_
  refine vc_seq ?_
  refine vc_cond_f rfl ?_
  refine vc_skip ?_
  refine then_next ?_
  refine vc_seq ?_
  refine vc_region ?_
  refine vl_det (det_move rfl) rfl ?_
  refine vl_det (det_move rfl) rfl ?_
  refine vl_call co80 rfl (mul64_d y hy) rfl ?_
  rintro _ _ ⟨rfl, hLL⟩
  obtain rfl := hLL.symm
  refine vl_det (det_move rfl) rfl ?_
  refine vl_det (det_extract rfl rfl) rfl ?_
  refine vl_det (det_extract rfl rfl) rfl ?_
  refine vl_det (det_assign rfl) rfl ?_
  refine vl_det (det_assign rfl) rfl ?_
  refine vl_end [(8, _), (9, _)] ⟨rfl, rfl, trivial⟩ ?_
  refine then_next ?_
  refine vc_seq ?_
  refine vc_region ?_
  refine vl_det (det_move rfl) rfl ?_
  refine vl_det (det_move rfl) rfl ?_
  refine vl_det (det_assign rfl) rfl ?_
  refine vl_det (det_assign rfl) rfl ?_
  refine vl_end [(4, _), (5, _)] ⟨rfl, rfl, trivial⟩ ?_
  refine then_next ?_
  refine vc_ret ?_
  refine ret2 rfl rfl rfl ?_
  exact ⟨rfl, rfl⟩
theorem rep_start (b : UInt8) (k : Nat) : (bv [b]).take (min 1 k) ++ (List.replicate k (Value.int .u8 0)).drop (min 1 k) = bv (List.replicate (min 1 k) b) ++ List.replicate (k - min 1 k) (.int .u8 0) := by
  rw [List.drop_replicate]
  congr 1
  rcases Nat.eq_zero_or_pos k with h | h
  · subst h; rfl
  · rw [Nat.min_eq_left h]; rfl
theorem rep_step (b : UInt8) {j k q : Nat} (hj : q ≤ j) (hk : j + q ≤ k) : (bv (List.replicate j b) ++ List.replicate (k - j) (Value.int .u8 0)).take j ++ (bv (List.replicate j b)).take q ++ (bv (List.replicate j b) ++ List.replicate (k - j) (Value.int .u8 0)).drop (j + q) = bv (List.replicate (j + q) b) ++ List.replicate (k - (j + q)) (.int .u8 0) := by
  rw [List.take_append_of_le_length (by simp), List.take_of_length_le (by simp), bv_take, List.take_replicate, Nat.min_eq_left hj, ← bv_append, List.replicate_append_replicate]
  congr 1
  rw [List.drop_append, List.drop_of_length_le (by simp), List.nil_append, List.drop_replicate]
  congr 1
  simp
  omega
theorem repeat_d {A : Option Addr} {c : Nat} (b : UInt8) (k : Nat) (hb : Bor B w0 F 1 (.slice A 1 c) 1 (bv [b])) (hk : k ≤ 1000000000) :
    Does Try.prog B w0 67 [.slice A 1 c, .int .i64 k] F (fun r L => ∃ A' c', r = .slice A' k c' ∧ L = .own 5 1 A' k c' (bv (List.replicate k b)) :: F) := by
  refine fn_walk Try.func67 48 rfl rfl rfl [(0, .slice A 1 c), (1, .int .i64 k)] ⟨⟨rfl, rfl⟩, ⟨rfl, rfl⟩, trivial⟩ ?_
  refine vc_seq ?_
  refine vc_region ?_
  refine vl_det (det_assign rfl) rfl ?_
  refine vl_end [(0, _), (1, _)] ⟨rfl, rfl, trivial⟩ ?_
  refine then_next ?_
  refine vc_seq ?_
  refine vc_seq ?_
  refine vc_region ?_
  refine vl_det (det_move rfl) rfl ?_
  refine vl_det (det_lss rfl rfl) rfl ?_
  refine vl_end [(0, _), (1, _), (10, _)] ⟨rfl, rfl, rfl, trivial⟩ ?_
  refine then_next ?_
  refine vc_decideU rfl (fun h10 => ?_) (fun h10 => ?_)
  · skip
    exfalso; omega
  · skip
    refine vc_skip ?_
    refine then_next ?_
    refine vc_seq ?_
    refine vc_region ?_
    refine vl_det (det_move rfl) rfl ?_
    refine vl_det (det_len_sl Try.underlying32 rfl) rfl ?_
    refine vl_det (det_conv Try.underlying3 Try.underlying90 rfl (r := 1) (by decide +kernel)) rfl ?_
    refine vl_det (det_move rfl) rfl ?_
    refine vl_det (det_conv Try.underlying3 Try.underlying90 rfl (w_u64 (by omega) (by omega))) rfl ?_
    refine vl_call co76 rfl (mul_d k (by omega)) rfl ?_
    rintro _ _ ⟨rfl, hLL⟩
    obtain rfl := hLL.symm
    refine vl_det (det_move rfl) rfl ?_
    refine vl_det (det_extract rfl rfl) rfl ?_
    refine vl_det (det_extract rfl rfl) rfl ?_
    refine vl_det (det_assign rfl) rfl ?_
    refine vl_det (det_assign rfl) rfl ?_
    refine vl_end [(0, _), (5, _), (6, _)] ⟨rfl, rfl, rfl, trivial⟩ ?_
    refine then_next ?_
    refine vc_seq ?_
    refine vc_seq ?_
    refine vc_region ?_
    refine vl_det (det_move rfl) rfl ?_
    refine vl_det (det_gtr rfl rfl) rfl ?_
    refine vl_det (det_move rfl) rfl ?_
    refine vl_guardn rfl rfl rfl (fun h23 => ?_) (fun h23 => ?_)
    · skip
      refine vl_det (det_move rfl) rfl ?_
      refine vl_guard_t rfl rfl ?_
      refine vl_det (det_gtr rfl rfl) rfl ?_
      refine vl_det (det_pick_f rfl rfl) rfl ?_
      refine vl_end [(0, _), (6, _), (26, _)] ⟨rfl, rfl, rfl, trivial⟩ ?_
      refine then_next ?_
      refine vc_decideU rfl (fun h26 => ?_) (fun h26 => ?_)
      · skip
        exfalso; omega
      · skip
        refine vc_skip ?_
        refine then_next ?_
        refine vc_seq ?_
        refine vc_region ?_
        refine vl_det (det_move rfl) rfl ?_
        refine vl_det (det_conv Try.underlying90 Try.underlying3 rfl (w_i64 (by omega) (by omega))) rfl ?_
        refine vl_eff (eff_make slT32 rfl rfl rfl rfl rfl (by omega) (by omega) (by omega)) rfl ?_
        rintro _ _ ⟨A30, rfl, rfl⟩
        refine vl_det (det_assign rfl) rfl ?_
        refine vl_end [(0, _), (7, _)] ⟨rfl, rfl, trivial⟩ ?_
        refine then_next ?_
        refine vc_seq ?_
        refine vc_region ?_
        refine vl_det (det_move rfl) rfl ?_
        refine vl_det (det_move rfl) rfl ?_
        refine vl_eff (eff_copy0 slT32 (by repeat (first | exact .hd | apply Sel.tl)) rfl rfl (by first | (exact Bor.own (by repeat (first | exact List.Mem.head _ | apply List.Mem.tail))) | (repeat (first | assumption | apply Bor.cons))) (bv_one _)) rfl ?_
        rintro _ _ ⟨rfl, rfl⟩
        refine vl_det (det_assign rfl) rfl ?_
        refine vl_end [(7, _), (8, _)] ⟨rfl, rfl, trivial⟩ ?_
        refine then_next ?_
        refine vc_seq ?_
        refine vc_block ?_
        refine vc_loopJ (fun zf zL zm => ∃ (j : Nat), (j ≤ k ∧ (0 < j ∨ k = 0)) ∧ k - j = zm ∧ Sub zf [(7, .slice A30 k k), (8, .int .i64 j)] ∧ Wk zL (.own 5 1 A30 k k (bv (List.replicate j b) ++ List.replicate (k - j) (.int .u8 0)) :: F)) _ ⟨min 1 k, ⟨by omega, by omega⟩, rfl, ⟨(by first | rfl | exact int_to (by omega) | exact sl_to (by omega)), (by first | rfl | exact int_to (by omega) | exact sl_to (by omega)), trivial⟩, wk_own rfl (rep_start b k) (.refl _)⟩ ?_
        rintro _ _ _ ⟨j, ⟨hj, hj0⟩, rfl, hs, hp⟩
        refine vc_weaken _ hs (vc_wk hp ?_)
        clear hs hp
        refine vc_seq ?_
        refine vc_seq ?_
        refine vc_region ?_
        refine vl_det (det_move rfl) rfl ?_
        refine vl_det (det_move rfl) rfl ?_
        refine vl_det (det_len_sl Try.underlying32 rfl) rfl ?_
        refine vl_det (det_lss rfl rfl) rfl ?_
        refine vl_end [(7, _), (8, _), (37, _)] ⟨rfl, rfl, rfl, trivial⟩ ?_
        refine then_next ?_
        refine vc_decideU rfl (fun h37 => ?_) (fun h37 => ?_)
        · skip
          have hbr : ∀ (L : List Ch), Ch.own 5 1 A30 k k (bv (List.replicate j b) ++ List.replicate (k - j) (.int .u8 0)) ∈ L → Bor B w0 L 1 (.slice A30 j k) j (bv (List.replicate j b)) := fun L hm => by
            have := (Bor.own (B := B) (w0 := w0) hm).head_ (k := j) (by omega)
            rw [Nat.mul_one, List.take_append_of_le_length (by simp), List.take_of_length_le (by simp)] at this
            exact this
          refine vc_skip ?_
          refine then_next ?_
          refine vc_block ?_
          refine vh_region (S := F) (by kernel_rfl) (by repeat (first | exact List.Sublist.refl _ | exact List.nil_sublist _ | apply List.Sublist.cons_cons | apply List.Sublist.cons)) ?_
          refine vh_take 0 rfl (by kernel_rfl) (by kernel_rfl) (by kernel_rfl) (det_move rfl) rfl ?_
          refine vh_take 1 rfl (by kernel_rfl) (by kernel_rfl) (by kernel_rfl) (det_move rfl) rfl ?_
          refine vh_take 2 rfl (by kernel_rfl) (by kernel_rfl) (by kernel_rfl) (det_move rfl) rfl ?_
          refine vh_take 3 rfl (by kernel_rfl) (by kernel_rfl) (by kernel_rfl) (det_slice_lo (i := j) (size := 1) Try.underlying32 (by kernel_rfl) rfl rfl rfl (by omega)) rfl ?_
          refine vh_take 4 rfl (by kernel_rfl) (by kernel_rfl) (by kernel_rfl) (det_move rfl) rfl ?_
          refine vh_take 5 rfl (by kernel_rfl) (by kernel_rfl) (by kernel_rfl) (det_move rfl) rfl ?_
          refine vh_take 6 rfl (by kernel_rfl) (by kernel_rfl) (by kernel_rfl) (det_slice_hi (i := j) (size := 1) Try.underlying32 (by kernel_rfl) rfl rfl rfl (by omega)) rfl ?_
          refine vh_one 7 (by kernel_rfl) ?_
          refine st_eff rfl .no (eff_copy (i := j) slT32 (by repeat (first | exact .hd | apply Sel.tl)) rfl (by omega) rfl (hbr _ (List.Mem.head _)) (bv_one _)) rfl (by rintro _ _ ⟨rfl, rfl⟩; exact (by repeat (first | exact List.Sublist.refl _ | exact List.nil_sublist _ | apply List.Sublist.cons_cons | apply List.Sublist.cons))) ?_
          rintro _ _ ⟨rfl, rfl⟩
          refine vh_take 8 rfl (by kernel_rfl) (by kernel_rfl) (by kernel_rfl) (det_add rfl rfl (w_i64 (by omega) (by omega))) rfl ?_
          refine vh_take 9 rfl (by kernel_rfl) (by kernel_rfl) (by kernel_rfl) (det_assign rfl) rfl ?_
          refine vh_done [(7, _), (8, _)] ⟨rfl, rfl, trivial⟩ (by kernel_rfl) ?_
          refine in_normal ?_
          refine in_loop_ ⟨_, by omega, j + min j (k - j), ⟨by omega, by omega⟩, rfl, ⟨(by first | rfl | exact int_to (by omega) | exact sl_to (by omega)), (by first | rfl | exact int_to (by omega) | exact sl_to (by omega)), trivial⟩, wk_own rfl (rep_step b (by omega) (by omega)) (.refl _)⟩
        · skip
          refine vc_exit ?_
          refine then_exit ?_
          refine loop_exit ?_
          refine in_eq ?_
          refine then_next ?_
          refine vc_seq ?_
          refine vc_region ?_
          refine vl_det (det_move rfl) rfl ?_
          refine vl_det (det_assign rfl) rfl ?_
          refine vl_end [(4, _)] ⟨rfl, trivial⟩ ?_
          refine then_next ?_
          refine vc_ret ?_
          have hjk : j = k := by omega
          subst hjk
          refine ret_wk (wk_own rfl (by rw [Nat.sub_self, List.replicate_zero, List.append_nil]) (.refl _)) ?_
          refine ret1 rfl rfl ?_
          exact ⟨A30, j, rfl, rfl⟩
    · skip
      exfalso; exact absurd h23 (by decide)
end Go.Proofs.Ytlbdhdocagahpaa
