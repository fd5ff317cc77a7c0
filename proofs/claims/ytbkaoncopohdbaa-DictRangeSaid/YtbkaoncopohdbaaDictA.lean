/-
  Dictionaries of texts: may, rises, same, the maker of parts. Condition: lengths to 10^15.
-/
import Derived.Test.YtbkaoncopohdbaaDictP
import Derived.Test.YtbkaoncopohdbaaChunk
namespace Go.Proofs.Ytbkaoncopohdbaa
open Go.RowKit
set_option linter.unusedVariables false
set_option maxRecDepth 20000
variable {B : Nat} {w0 : World} {F : List Ch} {A A1 A2 : Option Addr} {n c c1 c2 g : Nat}
theorem dmay_d (was s : Txt) : Does Try.prog B w0 42 [.string ⟨was.toArray⟩, .string ⟨s.toArray⟩] F (fun r L => r = .bool (decide (mayT was s)) ∧ L = F) := by
  refine fn_walk Try.func42 17 rfl rfl rfl [(0, .string ⟨was.toArray⟩), (1, .string ⟨s.toArray⟩)] ⟨⟨rfl, rfl⟩, ⟨rfl, rfl⟩, trivial⟩ ?_
  refine vc_seq ?_
  refine vc_region ?_
  refine vl_det (det_assign rfl) rfl ?_
  refine vl_end [(0, _), (1, _)] ⟨rfl, rfl, trivial⟩ ?_
  refine then_next ?_
  refine vc_seq ?_
  refine vc_region ?_
  refine vl_cut 12 16 [] (mayT was s) trivial ?_ ?_
  · skip
    refine vl_det (det_move rfl) rfl ?_
    refine vl_det (det_s_neq (r := []) rfl rfl) rfl ?_
    refine vl_det (det_move rfl) rfl ?_
    refine vl_guardp rfl rfl rfl (fun h7 => ?_) (fun h7 => ?_)
    · skip
      refine vl_det (det_move rfl) rfl ?_
      refine vl_guard_t rfl rfl ?_
      refine vl_det (det_len_s Try.underlying9 rfl) rfl ?_
      refine vl_guard_t rfl rfl ?_
      refine vl_det (det_leq rfl rfl) rfl ?_
      refine vl_det (det_pick_t rfl rfl) rfl ?_
      refine vl_det (det_move rfl) rfl ?_
      refine vl_guardp rfl rfl rfl (fun h12 => ?_) (fun h12 => ?_)
      · skip
        refine vl_det (det_move rfl) rfl ?_
        refine vl_guard_t rfl rfl ?_
        refine vl_det (det_move rfl) rfl ?_
        refine vl_guard_t rfl rfl ?_
        refine vl_det (det_s_gtrD rfl rfl) rfl ?_
        refine vl_det (det_pick_t rfl rfl) rfl ?_
        exact vl_cut_end trivial (by first | rfl | exact bool_to_t (by first | exact fun h => absurd h.1 (by assumption) | exact fun h => absurd h.2.1 (by omega) | exact ⟨fun h => ⟨by assumption, by omega, h⟩, fun h => h.2.2⟩) | exact bool_to_f (by first | exact fun h => absurd h.1 (by assumption) | exact fun h => absurd h.2.1 (by omega) | exact ⟨fun h => ⟨by assumption, by omega, h⟩, fun h => h.2.2⟩) | exact bool_to (by first | exact fun h => absurd h.1 (by assumption) | exact fun h => absurd h.2.1 (by omega) | exact ⟨fun h => ⟨by assumption, by omega, h⟩, fun h => h.2.2⟩) | exact bool_to_b (by first | exact fun h => absurd h.1 (by assumption) | exact fun h => absurd h.2.1 (by omega) | exact ⟨fun h => ⟨by assumption, by omega, h⟩, fun h => h.2.2⟩))
      · skip
        refine vl_guard_f rfl rfl rfl rfl ?_
        refine vl_guard_f rfl rfl rfl rfl ?_
        refine vl_det (det_pick_f rfl rfl) rfl ?_
        exact vl_cut_end trivial (by first | rfl | exact bool_to_t (by first | exact fun h => absurd h.1 (by assumption) | exact fun h => absurd h.2.1 (by omega) | exact ⟨fun h => ⟨by assumption, by omega, h⟩, fun h => h.2.2⟩) | exact bool_to_f (by first | exact fun h => absurd h.1 (by assumption) | exact fun h => absurd h.2.1 (by omega) | exact ⟨fun h => ⟨by assumption, by omega, h⟩, fun h => h.2.2⟩) | exact bool_to (by first | exact fun h => absurd h.1 (by assumption) | exact fun h => absurd h.2.1 (by omega) | exact ⟨fun h => ⟨by assumption, by omega, h⟩, fun h => h.2.2⟩) | exact bool_to_b (by first | exact fun h => absurd h.1 (by assumption) | exact fun h => absurd h.2.1 (by omega) | exact ⟨fun h => ⟨by assumption, by omega, h⟩, fun h => h.2.2⟩))
    · skip
      refine vl_guard_f rfl rfl rfl rfl ?_
      refine vl_guard_f rfl rfl rfl rfl ?_
      refine vl_det (det_pick_f rfl rfl) rfl ?_
      refine vl_det (det_move rfl) rfl ?_
      refine vl_guard_f rfl rfl rfl rfl ?_
      refine vl_guard_f rfl rfl rfl rfl ?_
      refine vl_guard_f rfl rfl rfl rfl ?_
      refine vl_det (det_pick_f rfl rfl) rfl ?_
      exact vl_cut_end trivial (by first | rfl | exact bool_to_t (by first | exact fun h => absurd h.1 (by assumption) | exact fun h => absurd h.2.1 (by omega) | exact ⟨fun h => ⟨by assumption, by omega, h⟩, fun h => h.2.2⟩) | exact bool_to_f (by first | exact fun h => absurd h.1 (by assumption) | exact fun h => absurd h.2.1 (by omega) | exact ⟨fun h => ⟨by assumption, by omega, h⟩, fun h => h.2.2⟩) | exact bool_to (by first | exact fun h => absurd h.1 (by assumption) | exact fun h => absurd h.2.1 (by omega) | exact ⟨fun h => ⟨by assumption, by omega, h⟩, fun h => h.2.2⟩) | exact bool_to_b (by first | exact fun h => absurd h.1 (by assumption) | exact fun h => absurd h.2.1 (by omega) | exact ⟨fun h => ⟨by assumption, by omega, h⟩, fun h => h.2.2⟩))
  · skip
    refine vl_det (det_assign rfl) rfl ?_
    refine vl_end [(4, _)] ⟨rfl, trivial⟩ ?_
    refine then_next ?_
    refine vc_ret ?_
    refine ret1 rfl rfl ?_
    exact ⟨rfl, rfl⟩
theorem dsame_d (s r : Txt) (hs : s.length ≤ 1000000000000000) : Does Try.prog B w0 45 [.string ⟨s.toArray⟩, .string ⟨r.toArray⟩] F (fun v L => v = .int .i64 (lcp s r) ∧ L = F) := by
  have hle := (lcp_le s r).1
  refine fn_walk Try.func45 28 rfl rfl rfl [(0, .string ⟨s.toArray⟩), (1, .string ⟨r.toArray⟩)] ⟨⟨rfl, rfl⟩, ⟨rfl, rfl⟩, trivial⟩ ?_
  refine vc_seq ?_
  refine vc_region ?_
  refine vl_det (det_assign rfl) rfl ?_
  refine vl_end [(0, _), (1, _)] ⟨rfl, rfl, trivial⟩ ?_
  refine then_next ?_
  refine vc_seq ?_
  refine vc_region ?_
  refine vl_det (det_assign rfl) rfl ?_
  refine vl_end [(0, _), (1, _), (5, _)] ⟨rfl, rfl, rfl, trivial⟩ ?_
  refine then_next ?_
  refine vc_seq ?_
  refine vc_block ?_
  refine vc_loopJ (fun zf zL zm => ∃ (k : Nat), (k ≤ lcp s r) ∧ lcp s r - k = zm ∧ Sub zf [(0, .string ⟨s.toArray⟩), (1, .string ⟨r.toArray⟩), (5, .int .i64 k)] ∧ Wk zL (F)) _ ⟨0, Nat.zero_le _, rfl, ⟨(by first | rfl | exact int_to (by omega) | exact sl_to (by omega)), (by first | rfl | exact int_to (by omega) | exact sl_to (by omega)), (by first | rfl | exact int_to (by omega) | exact sl_to (by omega)), trivial⟩, .refl _⟩ ?_
  rintro _ _ _ ⟨k, hk, rfl, hs, hp⟩
  refine vc_weaken _ hs (vc_wk hp ?_)
  clear hs hp
  refine vc_seq ?_
  refine vc_seq ?_
  refine vq_region (by kernel_rfl) (by kernel_rfl) ?_
  refine vq_cut 19 24 [(0, _), (1, _), (5, _)] (k < lcp s r) ⟨rfl, rfl, rfl, trivial⟩ ?_ ?_
  · skip
    refine vq_det (det_move rfl) rfl ?_
    refine vq_det (det_move rfl) rfl ?_
    refine vq_det (det_len_s Try.underlying9 rfl) rfl ?_
    refine vq_det (det_lss rfl rfl) rfl ?_
    refine vq_det (det_move rfl) rfl ?_
    refine vq_guardp rfl rfl rfl (fun h10 => ?_) (fun h10 => ?_)
    · skip
      refine vq_det (det_move rfl) rfl ?_
      refine vq_guard_t rfl rfl ?_
      refine vq_det (det_move rfl) rfl ?_
      refine vq_guard_t rfl rfl ?_
      refine vq_det (det_len_s Try.underlying9 rfl) rfl ?_
      refine vq_guard_t rfl rfl ?_
      refine vq_det (det_lss rfl rfl) rfl ?_
      refine vq_det (det_pick_t rfl rfl) rfl ?_
      refine vq_det (det_move rfl) rfl ?_
      refine vq_guardp rfl rfl rfl (fun h16 => ?_) (fun h16 => ?_)
      · skip
        refine vq_det (det_move rfl) rfl ?_
        refine vq_guard_t rfl rfl ?_
        refine vq_det (det_move rfl) rfl ?_
        refine vq_guard_t rfl rfl ?_
        refine vq_det (det_at_str Try.underlying9 rfl rfl rfl (by omega)) rfl ?_
        refine vq_guard_t rfl rfl ?_
        refine vq_det (det_move rfl) rfl ?_
        refine vq_guard_t rfl rfl ?_
        refine vq_det (det_move rfl) rfl ?_
        refine vq_guard_t rfl rfl ?_
        refine vq_det (det_at_str Try.underlying9 rfl rfl rfl (by omega)) rfl ?_
        refine vq_guard_t rfl rfl ?_
        refine vq_det (det_eql rfl rfl) rfl ?_
        refine vq_det (det_pick_t rfl rfl) rfl ?_
        exact vq_cut_end ⟨rfl, rfl, rfl, trivial⟩ (by first | rfl | exact bool_to_t (by first | exact fun h => absurd ((lcp_step s r k hk).1 h).1.1 (by omega) | exact fun h => absurd ((lcp_step s r k hk).1 h).1.2 (by omega) | exact ⟨fun h => (lcp_step s r k hk).2 ⟨⟨by omega, by omega⟩, UInt8.toNat_inj.1 (by omega)⟩, fun h => by rw [((lcp_step s r k hk).1 h).2]⟩) | exact bool_to_f (by first | exact fun h => absurd ((lcp_step s r k hk).1 h).1.1 (by omega) | exact fun h => absurd ((lcp_step s r k hk).1 h).1.2 (by omega) | exact ⟨fun h => (lcp_step s r k hk).2 ⟨⟨by omega, by omega⟩, UInt8.toNat_inj.1 (by omega)⟩, fun h => by rw [((lcp_step s r k hk).1 h).2]⟩) | exact bool_to (by first | exact fun h => absurd ((lcp_step s r k hk).1 h).1.1 (by omega) | exact fun h => absurd ((lcp_step s r k hk).1 h).1.2 (by omega) | exact ⟨fun h => (lcp_step s r k hk).2 ⟨⟨by omega, by omega⟩, UInt8.toNat_inj.1 (by omega)⟩, fun h => by rw [((lcp_step s r k hk).1 h).2]⟩) | exact bool_to_b (by first | exact fun h => absurd ((lcp_step s r k hk).1 h).1.1 (by omega) | exact fun h => absurd ((lcp_step s r k hk).1 h).1.2 (by omega) | exact ⟨fun h => (lcp_step s r k hk).2 ⟨⟨by omega, by omega⟩, UInt8.toNat_inj.1 (by omega)⟩, fun h => by rw [((lcp_step s r k hk).1 h).2]⟩))
      · skip
        refine vq_guard_f rfl rfl rfl rfl ?_
        refine vq_guard_f rfl rfl rfl rfl ?_
        refine vq_guard_f rfl rfl rfl rfl ?_
        refine vq_guard_f rfl rfl rfl rfl ?_
        refine vq_guard_f rfl rfl rfl rfl ?_
        refine vq_guard_f rfl rfl rfl rfl ?_
        refine vq_det (det_pick_f rfl rfl) rfl ?_
        exact vq_cut_end ⟨rfl, rfl, rfl, trivial⟩ (by first | rfl | exact bool_to_t (by first | exact fun h => absurd ((lcp_step s r k hk).1 h).1.1 (by omega) | exact fun h => absurd ((lcp_step s r k hk).1 h).1.2 (by omega) | exact ⟨fun h => (lcp_step s r k hk).2 ⟨⟨by omega, by omega⟩, UInt8.toNat_inj.1 (by omega)⟩, fun h => by rw [((lcp_step s r k hk).1 h).2]⟩) | exact bool_to_f (by first | exact fun h => absurd ((lcp_step s r k hk).1 h).1.1 (by omega) | exact fun h => absurd ((lcp_step s r k hk).1 h).1.2 (by omega) | exact ⟨fun h => (lcp_step s r k hk).2 ⟨⟨by omega, by omega⟩, UInt8.toNat_inj.1 (by omega)⟩, fun h => by rw [((lcp_step s r k hk).1 h).2]⟩) | exact bool_to (by first | exact fun h => absurd ((lcp_step s r k hk).1 h).1.1 (by omega) | exact fun h => absurd ((lcp_step s r k hk).1 h).1.2 (by omega) | exact ⟨fun h => (lcp_step s r k hk).2 ⟨⟨by omega, by omega⟩, UInt8.toNat_inj.1 (by omega)⟩, fun h => by rw [((lcp_step s r k hk).1 h).2]⟩) | exact bool_to_b (by first | exact fun h => absurd ((lcp_step s r k hk).1 h).1.1 (by omega) | exact fun h => absurd ((lcp_step s r k hk).1 h).1.2 (by omega) | exact ⟨fun h => (lcp_step s r k hk).2 ⟨⟨by omega, by omega⟩, UInt8.toNat_inj.1 (by omega)⟩, fun h => by rw [((lcp_step s r k hk).1 h).2]⟩))
    · skip
      refine vq_guard_f rfl rfl rfl rfl ?_
      refine vq_guard_f rfl rfl rfl rfl ?_
      refine vq_guard_f rfl rfl rfl rfl ?_
      refine vq_det (det_pick_f rfl rfl) rfl ?_
      refine vq_det (det_move rfl) rfl ?_
      refine vq_guard_f rfl rfl rfl rfl ?_
      refine vq_guard_f rfl rfl rfl rfl ?_
      refine vq_guard_f rfl rfl rfl rfl ?_
      refine vq_guard_f rfl rfl rfl rfl ?_
      refine vq_guard_f rfl rfl rfl rfl ?_
      refine vq_guard_f rfl rfl rfl rfl ?_
      refine vq_guard_f rfl rfl rfl rfl ?_
      refine vq_det (det_pick_f rfl rfl) rfl ?_
      exact vq_cut_end ⟨rfl, rfl, rfl, trivial⟩ (by first | rfl | exact bool_to_t (by first | exact fun h => absurd ((lcp_step s r k hk).1 h).1.1 (by omega) | exact fun h => absurd ((lcp_step s r k hk).1 h).1.2 (by omega) | exact ⟨fun h => (lcp_step s r k hk).2 ⟨⟨by omega, by omega⟩, UInt8.toNat_inj.1 (by omega)⟩, fun h => by rw [((lcp_step s r k hk).1 h).2]⟩) | exact bool_to_f (by first | exact fun h => absurd ((lcp_step s r k hk).1 h).1.1 (by omega) | exact fun h => absurd ((lcp_step s r k hk).1 h).1.2 (by omega) | exact ⟨fun h => (lcp_step s r k hk).2 ⟨⟨by omega, by omega⟩, UInt8.toNat_inj.1 (by omega)⟩, fun h => by rw [((lcp_step s r k hk).1 h).2]⟩) | exact bool_to (by first | exact fun h => absurd ((lcp_step s r k hk).1 h).1.1 (by omega) | exact fun h => absurd ((lcp_step s r k hk).1 h).1.2 (by omega) | exact ⟨fun h => (lcp_step s r k hk).2 ⟨⟨by omega, by omega⟩, UInt8.toNat_inj.1 (by omega)⟩, fun h => by rw [((lcp_step s r k hk).1 h).2]⟩) | exact bool_to_b (by first | exact fun h => absurd ((lcp_step s r k hk).1 h).1.1 (by omega) | exact fun h => absurd ((lcp_step s r k hk).1 h).1.2 (by omega) | exact ⟨fun h => (lcp_step s r k hk).2 ⟨⟨by omega, by omega⟩, UInt8.toNat_inj.1 (by omega)⟩, fun h => by rw [((lcp_step s r k hk).1 h).2]⟩))
  · skip
    refine vq_end [(0, _), (1, _), (5, _), (24, _)] ⟨rfl, rfl, rfl, rfl, trivial⟩ ?_
    refine then_next ?_
    refine vc_decideU rfl (fun h24 => ?_) (fun h24 => ?_)
    · skip
      refine vc_skip ?_
      refine then_next ?_
      refine vc_block ?_
      refine vc_region ?_
      refine vl_det (det_move rfl) rfl ?_
      refine vl_det (det_add rfl rfl (w_i64 (by omega) (by omega))) rfl ?_
      refine vl_det (det_assign rfl) rfl ?_
      refine vl_end [(0, _), (1, _), (5, _)] ⟨rfl, rfl, rfl, trivial⟩ ?_
      refine in_normal ?_
      refine in_loop_ ⟨_, by omega, k + 1, by omega, rfl, ⟨(by first | rfl | exact int_to (by omega) | exact sl_to (by omega)), (by first | rfl | exact int_to (by omega) | exact sl_to (by omega)), (by first | rfl | exact int_to (by omega) | exact sl_to (by omega)), trivial⟩, .refl _⟩
    · skip
      refine vc_exit ?_
      refine then_exit ?_
      refine loop_exit ?_
      refine in_eq ?_
      refine then_next ?_
      refine vc_seq ?_
      refine vc_region ?_
      refine vl_det (det_move rfl) rfl ?_
      refine vl_det (det_assign rfl) rfl ?_
      refine vl_end [(4, _)] ⟨rfl, trivial⟩ ?_
      refine then_next ?_
      refine vc_ret ?_
      refine ret1 rfl rfl ?_
      exact ⟨by rw [show k = lcp s r by omega], rfl⟩
theorem chunk_d {sz : Nat} (hsz : 1 ≤ sz) : Does Try.prog B w0 27 [.slice A n c, .int .i64 sz] F (fun v L => ∃ g2 g3, v = .func (.func 43) #[] #[.pointer (some ⟨g2, 0, none⟩), .pointer (some ⟨g3, 0, none⟩)] ∧ L = .blk g3 3 [.int .i64 sz] :: .blk g2 22 [.slice A n c] :: F) := by
  refine fn_walk Try.func27 9 rfl rfl rfl [(0, .slice A n c), (1, .int .i64 sz)] ⟨⟨rfl, rfl⟩, ⟨rfl, rfl⟩, trivial⟩ ?_
  refine vc_seq ?_
  refine vc_region ?_
  refine vl_eff (eff_box rfl rfl) rfl ?_
  rintro _ _ ⟨g2, rfl, rfl⟩
  refine vl_eff (eff_box rfl rfl) rfl ?_
  rintro _ _ ⟨g3, rfl, rfl⟩
  refine vl_det (det_assign rfl) rfl ?_
  refine vl_end [(2, _), (3, _)] ⟨rfl, rfl, trivial⟩ ?_
  refine then_next ?_
  refine vc_seq ?_
  refine vc_seq ?_
  refine vc_region ?_
  refine vl_det (det_load_blk (by kernel_rfl) rfl (by repeat (first | exact .hd | apply Sel.tl)) rfl) rfl ?_
  refine vl_det (det_lss rfl rfl) rfl ?_
  refine vl_end [(2, _), (3, _), (6, _)] ⟨rfl, rfl, rfl, trivial⟩ ?_
  refine then_next ?_
  refine vc_decideU rfl (fun h6 => ?_) (fun h6 => ?_)
  · skip
    exfalso; omega
  · skip
    refine vc_skip ?_
    refine then_next ?_
    refine vc_seq ?_
    refine vc_region ?_
    refine vl_det (det_makeFunc rfl rfl) rfl ?_
    refine vl_det (det_assign rfl) rfl ?_
    refine vl_end [(4, _)] ⟨rfl, trivial⟩ ?_
    refine then_next ?_
    refine vc_ret ?_
    refine ret1 rfl rfl ?_
    exact ⟨_, _, rfl, rfl⟩
end Go.Proofs.Ytbkaoncopohdbaa
