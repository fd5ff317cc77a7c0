/-
  The document's Read of lengths, by frames. No condition.
-/
import Derived.Test.YtpdnohllbijonaaCanonRdr
import Derived.Test.YtpdnohllbijonaaBitRfrp
namespace Go.Proofs.Ytpdnohllbijonaa
open Go.RowKit
set_option linter.unusedVariables false
variable {B : Nat} {w0 : World} {F : List Ch} {A : Option Addr} {c g : Nat}
theorem rep_more (acc : List UInt8) (m : Nat) : bv (acc ++ List.replicate m 0) ++ [Value.int .u8 0] = bv (acc ++ List.replicate (m + 1) 0) := by
  simp [bv, List.replicate_succ']
theorem rread_d (q : List Bool) (p0 : Nat) (hp0 : p0 ≤ q.length) (hq : q.length ≤ 8000000) (n : Int) (h1 : -9223372036854775808 ≤ n) (h2 : n ≤ 9223372036854775807) (acc' : List UInt8) (e' : Int) (p' : Nat) (hR : rdA q p0 n = (acc', e', p')) :
    Does Try.prog B w0 26 [.pointer (some ⟨g, 0, none⟩), .int .i64 n] (Rf g A c q p0 F) (fun r L => ∃ A' c', r = .tuple #[.slice A' acc'.length c', .int .i64 e'] ∧ L = Rf g A c q p' (.own 5 1 A' acc'.length c' (bv acc') :: F)) := by
  refine fn_walk Try.func26 72 rfl rfl rfl [(0, .pointer (some ⟨g, 0, none⟩)), (1, .int .i64 n)] ⟨⟨rfl, rfl⟩, ⟨rfl, rfl⟩, trivial⟩ ?_
  refine vc_seq ?_
  refine vc_region ?_
  refine vl_det (det_assign rfl) rfl ?_
  refine vl_det (det_assign rfl) rfl ?_
  refine vl_end [(0, _), (1, _)] ⟨rfl, rfl, trivial⟩ ?_
  refine then_next ?_
  refine vc_seq ?_
  refine vc_seq ?_
  refine vc_nil_row 5 1 none ?_
  refine vc_region ?_
  refine vl_cut 6 17 [(0, _), (1, _)] (n < 0 ∨ 300 < n) ⟨rfl, rfl, trivial⟩ ?_ ?_
  · skip
    refine vl_det (det_move rfl) rfl ?_
    refine vl_det (det_lss rfl rfl) rfl ?_
    refine vl_det (det_move rfl) rfl ?_
    refine vl_guardn rfl rfl rfl (fun h14 => ?_) (fun h14 => ?_)
    · skip
      refine vl_det (det_move rfl) rfl ?_
      refine vl_guard_t rfl rfl ?_
      refine vl_det (det_gtr rfl rfl) rfl ?_
      refine vl_det (det_pick_f rfl rfl) rfl ?_
      exact vl_cut_end ⟨rfl, rfl, trivial⟩ (by first | rfl | exact bool_to_t (by first | omega | (exact ⟨fun h => by omega, fun h => by omega⟩)) | exact bool_to_f (by first | omega | (exact ⟨fun h => by omega, fun h => by omega⟩)) | exact bool_to (by first | omega | (exact ⟨fun h => by omega, fun h => by omega⟩)) | exact bool_to_b (by first | omega | (exact ⟨fun h => by omega, fun h => by omega⟩)))
    · skip
      refine vl_guard_f rfl rfl rfl rfl ?_
      refine vl_det (det_pick_t rfl rfl) rfl ?_
      exact vl_cut_end ⟨rfl, rfl, trivial⟩ (by first | rfl | exact bool_to_t (by first | omega | (exact ⟨fun h => by omega, fun h => by omega⟩)) | exact bool_to_f (by first | omega | (exact ⟨fun h => by omega, fun h => by omega⟩)) | exact bool_to (by first | omega | (exact ⟨fun h => by omega, fun h => by omega⟩)) | exact bool_to_b (by first | omega | (exact ⟨fun h => by omega, fun h => by omega⟩)))
  · skip
    refine vl_end [(0, _), (1, _), (17, _)] ⟨rfl, rfl, rfl, trivial⟩ ?_
    refine then_next ?_
    refine vc_decideU rfl (fun h17 => ?_) (fun h17 => ?_)
    · skip
      rw [rdA, if_pos h17] at hR
      obtain ⟨rfl, rfl, rfl⟩ := trip hR
      refine vc_seq ?_
      refine vc_region ?_
      refine vl_det (det_assign rfl) rfl ?_
      refine vl_det (det_assign rfl) rfl ?_
      refine vl_end [(4, _), (5, _)] ⟨rfl, rfl, trivial⟩ ?_
      refine then_next ?_
      refine vc_ret ?_
      refine then_ret ?_
      refine ret_wk (Wk.of_perm (swp12 _ _ _ _)) ?_
      refine ret2 rfl rfl rfl ?_
      exact ⟨none, 0, rfl, rfl⟩
    · skip
      obtain ⟨N, rfl⟩ := Int.eq_ofNat_of_zero_le (show 0 ≤ n by omega)
      rw [rdA, if_neg h17, Int.toNat_natCast] at hR
      refine vc_skip ?_
      refine then_next ?_
      refine vc_seq ?_
      refine vc_nil_row 5 1 none ?_
      refine vc_region ?_
      refine vl_det (det_assign rfl) rfl ?_
      refine vl_end [(0, _), (1, _), (6, _)] ⟨rfl, rfl, rfl, trivial⟩ ?_
      refine then_next ?_
      refine vc_seq ?_
      refine vc_region ?_
      refine vl_det (det_assign rfl) rfl ?_
      refine vl_end [(0, _), (1, _), (6, _), (7, _)] ⟨rfl, rfl, rfl, rfl, trivial⟩ ?_
      refine then_next ?_
      refine vc_seq ?_
      refine vc_block ?_
      refine vc_loopJ (fun zf zL zm => ∃ (f p : Nat) (acc : List UInt8) (s : Bool) (A6 : Option Addr) (c6 : Nat) (z : Int), (acc.length ≤ N ∧ N ≤ acc.length + f ∧ p ≤ q.length ∧ rdC q N f p acc s = (acc', e', p') ∧ (z < 64 ↔ s = true)) ∧ N - acc.length = zm ∧ Sub zf [(0, .pointer (some ⟨g, 0, none⟩)), (1, .int .i64 N), (6, .slice A6 acc.length c6), (7, .int .i64 z)] ∧ Wk zL (Rf g A c q p (.own 5 1 A6 acc.length c6 (bv acc) :: .own 5 1 none 0 0 [] :: F))) _ ⟨N, p0, [], false, none, 0, 64, ⟨Nat.zero_le _, by simp, hp0, hR, by simp⟩, rfl, ⟨(by first | rfl | exact int_to (by omega)), (by first | rfl | exact int_to (by omega)), (by first | rfl | exact int_to (by omega)), (by first | rfl | exact int_to (by omega)), trivial⟩, Wk.of_perm (swp22 _ _ _ _ _)⟩ ?_
      rintro _ _ _ ⟨f, p, acc, s, A6, c6, z, ⟨hal, haf, hpq, hrd, hz⟩, rfl, hs, hp⟩
      refine vc_weaken _ hs (vc_wk hp ?_)
      clear hs hp
      refine vc_seq ?_
      refine vc_seq ?_
      refine vc_region ?_
      refine vl_det (det_move rfl) rfl ?_
      refine vl_det (det_len_sl Try.underlying22 rfl) rfl ?_
      refine vl_det (det_move rfl) rfl ?_
      refine vl_det (det_lss rfl rfl) rfl ?_
      refine vl_end [(0, _), (1, _), (6, _), (7, _), (21, _)] ⟨rfl, rfl, rfl, rfl, rfl, trivial⟩ ?_
      refine then_next ?_
      refine vc_decideU rfl (fun h21 => ?_) (fun h21 => ?_)
      · skip
        obtain ⟨f', rfl, haf', hrd'⟩ := rdC_succ hrd haf (by omega)
        have hv4 : gtV q p 4 < 16 := gtV_lt q p (n := 4) (by omega)
        have hv6 : gtV q (gtP q p 4) 6 < 64 := gtV_lt q (gtP q p 4) (n := 6) (by omega)
        have hp4 := gtP_le (q := q) (p := p) 4 hpq
        have hp6 := gtP_le (q := q) (p := gtP q p 4) 6 hp4
        refine vc_skip ?_
        refine then_next ?_
        refine vc_block ?_
        refine vc_seq ?_
        refine vc_region ?_
        refine vl_det (det_move rfl) rfl ?_
        refine vl_call co36 rfl (rget_d q p hpq hq 4 (by omega) (by omega)) rfl ?_
        rintro _ _ ⟨rfl, hLL⟩
        obtain rfl := hLL.symm
        refine vl_det (det_move rfl) rfl ?_
        refine vl_det (det_extract rfl rfl) rfl ?_
        refine vl_det (det_extract rfl rfl) rfl ?_
        refine vl_det (det_assign rfl) rfl ?_
        refine vl_det (det_assign rfl) rfl ?_
        refine vl_end [(0, _), (1, _), (6, _), (7, _), (8, _), (9, _)] ⟨rfl, rfl, rfl, rfl, rfl, rfl, trivial⟩ ?_
        refine then_next ?_
        refine vc_seq ?_
        refine vc_seq ?_
        refine vc_region ?_
        refine vl_det (det_move rfl) rfl ?_
        refine vl_det (det_neq rfl rfl) rfl ?_
        refine vl_end [(0, _), (1, _), (6, _), (7, _), (8, _), (9, _), (28, _)] ⟨rfl, rfl, rfl, rfl, rfl, rfl, rfl, trivial⟩ ?_
        refine then_next ?_
        refine vc_decideU rfl (fun h28 => ?_) (fun h28 => ?_)
        · skip
          have hR2 := rdC_err hrd' (by omega) h28
          obtain ⟨rfl, rfl, rfl⟩ := trip hR2
          refine vc_seq ?_
          refine vc_region ?_
          refine vl_det (det_move rfl) rfl ?_
          refine vl_det (det_assign rfl) rfl ?_
          refine vl_det (det_assign rfl) rfl ?_
          refine vl_end [(4, _), (5, _)] ⟨rfl, rfl, trivial⟩ ?_
          refine then_next ?_
          refine vc_ret ?_
          refine then_ret ?_
          refine in_ret ?_
          refine loop_ret ?_
          refine in_ret ?_
          refine then_ret ?_
          refine ret_wk (wk_blk rfl (wk_own rfl rfl (.skip (.refl _)))) ?_
          refine ret2 rfl rfl rfl ?_
          exact ⟨none, 0, rfl, rfl⟩
        · skip
          refine vc_skip ?_
          refine then_next ?_
          refine vc_seq ?_
          refine vc_seq ?_
          refine vc_region ?_
          refine vl_det (det_move rfl) rfl ?_
          refine vl_det (det_gtr rfl rfl) rfl ?_
          refine vl_end [(0, _), (1, _), (6, _), (7, _), (8, _), (31, _)] ⟨rfl, rfl, rfl, rfl, rfl, rfl, trivial⟩ ?_
          refine then_next ?_
          refine vc_decideU rfl (fun h31 => ?_) (fun h31 => ?_)
          · skip
            have hrn := rdC_one hrd' (by omega) (by omega) (by omega)
            have hl1 : (acc ++ [UInt8.ofNat (gtV q p 4)]).length = acc.length + 1 := by simp
            refine vc_seq ?_
            refine vc_region ?_
            refine vl_det (det_move rfl) rfl ?_
            refine vl_det (det_move rfl) rfl ?_
            refine vl_det (det_conv Try.underlying39 Try.underlying5 rfl (w_u8 (by omega) (by omega))) rfl ?_
            refine vl_push slT22 rfl rfl rfl rfl rfl (fun _ => rfl) (by repeat (first | exact .hd | apply Sel.tl)) (by omega) (by omega) ?_
            intro _ A36 c36
            rw [← hl1]
            refine vl_det (det_assign rfl) rfl ?_
            refine vl_end [(0, _), (1, _), (6, _)] ⟨rfl, rfl, rfl, trivial⟩ ?_
            refine then_next ?_
            refine vc_seq ?_
            refine vc_region ?_
            refine vl_det (det_assign rfl) rfl ?_
            refine vl_end [(0, _), (1, _), (6, _), (7, _)] ⟨rfl, rfl, rfl, rfl, trivial⟩ ?_
            refine then_next ?_
            refine vc_exit ?_
            refine then_exit ?_
            refine in_eq ?_
            refine in_loop_ ⟨_, by omega, f', gtP q p 4, acc ++ [UInt8.ofNat (gtV q p 4)], false, A36, c36, 64, ⟨by simp; omega, by simp; omega, hp4, hrn, by simp⟩, rfl, ⟨(by first | rfl | exact int_to (by omega)), (by first | rfl | exact int_to (by omega)), (by first | rfl | exact int_to (by omega)), (by first | rfl | exact int_to (by omega)), trivial⟩, wk_blk rfl (wk_own rfl rfl (wk_own rfl (bv_of (by omega) _) (.refl _)))⟩
          · skip
            refine vc_skip ?_
            refine then_next ?_
            refine vc_seq ?_
            refine vc_region ?_
            refine vl_det (det_move rfl) rfl ?_
            refine vl_call co36 rfl (rget_d q (gtP q p 4) hp4 hq 6 (by omega) (by omega)) rfl ?_
            rintro _ _ ⟨rfl, hLL⟩
            obtain rfl := hLL.symm
            refine vl_det (det_move rfl) rfl ?_
            refine vl_det (det_extract rfl rfl) rfl ?_
            refine vl_det (det_extract rfl rfl) rfl ?_
            refine vl_det (det_assign rfl) rfl ?_
            refine vl_det (det_assign rfl) rfl ?_
            refine vl_end [(0, _), (1, _), (6, _), (7, _), (9, _), (10, _)] ⟨rfl, rfl, rfl, rfl, rfl, rfl, trivial⟩ ?_
            refine then_next ?_
            refine vc_seq ?_
            refine vc_seq ?_
            refine vc_region ?_
            refine vl_det (det_move rfl) rfl ?_
            refine vl_det (det_neq rfl rfl) rfl ?_
            refine vl_end [(0, _), (1, _), (6, _), (7, _), (9, _), (10, _), (43, _)] ⟨rfl, rfl, rfl, rfl, rfl, rfl, rfl, trivial⟩ ?_
            refine then_next ?_
            refine vc_decideU rfl (fun h43 => ?_) (fun h43 => ?_)
            · skip
              have hR2 := rdC_err2 hrd' (by omega) (by omega) (by omega) h43
              obtain ⟨rfl, rfl, rfl⟩ := trip hR2
              refine vc_seq ?_
              refine vc_region ?_
              refine vl_det (det_move rfl) rfl ?_
              refine vl_det (det_assign rfl) rfl ?_
              refine vl_det (det_assign rfl) rfl ?_
              refine vl_end [(4, _), (5, _)] ⟨rfl, rfl, trivial⟩ ?_
              refine then_next ?_
              refine vc_ret ?_
              refine then_ret ?_
              refine in_ret ?_
              refine loop_ret ?_
              refine in_ret ?_
              refine then_ret ?_
              refine ret_wk (wk_blk rfl (wk_own rfl rfl (.skip (.refl _)))) ?_
              refine ret2 rfl rfl rfl ?_
              exact ⟨none, 0, rfl, rfl⟩
            · skip
              refine vc_skip ?_
              refine then_next ?_
              refine vc_seq ?_
              refine vc_seq ?_
              refine vc_region ?_
              refine vl_cut 12 56 [(0, _), (1, _), (6, _), (10, _)] (s = true ∨ N ≤ acc.length + gtV q (gtP q p 4) 6) ⟨rfl, rfl, rfl, rfl, trivial⟩ ?_ ?_
              · skip
                refine vl_det (det_move rfl) rfl ?_
                refine vl_det (det_lss rfl rfl) rfl ?_
                refine vl_det (det_move rfl) rfl ?_
                refine vl_guardn rfl rfl rfl (fun h47 => ?_) (fun h47 => ?_)
                · skip
                  refine vl_det (det_move rfl) rfl ?_
                  refine vl_guard_t rfl rfl ?_
                  refine vl_det (det_len_sl Try.underlying22 rfl) rfl ?_
                  refine vl_guard_t rfl rfl ?_
                  refine vl_det (det_move rfl) rfl ?_
                  refine vl_guard_t rfl rfl ?_
                  refine vl_det (det_conv Try.underlying39 Try.underlying3 rfl (w_i64 (by omega) (by omega))) rfl ?_
                  refine vl_guard_t rfl rfl ?_
                  refine vl_det (det_add rfl rfl (w_i64 (by omega) (by omega))) rfl ?_
                  refine vl_guard_t rfl rfl ?_
                  refine vl_det (det_add rfl rfl (w_i64 (by omega) (by omega))) rfl ?_
                  refine vl_guard_t rfl rfl ?_
                  refine vl_det (det_move rfl) rfl ?_
                  refine vl_guard_t rfl rfl ?_
                  refine vl_det (det_gtr rfl rfl) rfl ?_
                  refine vl_det (det_pick_f rfl rfl) rfl ?_
                  exact vl_cut_end ⟨rfl, rfl, rfl, rfl, trivial⟩ (by first | rfl | exact bool_to_t (by first | (exact .inl (hz.1 (by omega))) | (exact ⟨fun h => .inr (by omega), fun h => h.elim (fun h => absurd (hz.2 h) (by omega)) (fun h => by omega)⟩)) | exact bool_to_f (by first | (exact .inl (hz.1 (by omega))) | (exact ⟨fun h => .inr (by omega), fun h => h.elim (fun h => absurd (hz.2 h) (by omega)) (fun h => by omega)⟩)) | exact bool_to (by first | (exact .inl (hz.1 (by omega))) | (exact ⟨fun h => .inr (by omega), fun h => h.elim (fun h => absurd (hz.2 h) (by omega)) (fun h => by omega)⟩)) | exact bool_to_b (by first | (exact .inl (hz.1 (by omega))) | (exact ⟨fun h => .inr (by omega), fun h => h.elim (fun h => absurd (hz.2 h) (by omega)) (fun h => by omega)⟩)))
                · skip
                  refine vl_guard_f rfl rfl rfl rfl ?_
                  refine vl_guard_f rfl rfl rfl rfl ?_
                  refine vl_guard_f rfl rfl rfl rfl ?_
                  refine vl_guard_f rfl rfl rfl rfl ?_
                  refine vl_guard_f rfl rfl rfl rfl ?_
                  refine vl_guard_f rfl rfl rfl rfl ?_
                  refine vl_guard_f rfl rfl rfl rfl ?_
                  refine vl_det (det_pick_t rfl rfl) rfl ?_
                  exact vl_cut_end ⟨rfl, rfl, rfl, rfl, trivial⟩ (by first | rfl | exact bool_to_t (by first | (exact .inl (hz.1 (by omega))) | (exact ⟨fun h => .inr (by omega), fun h => h.elim (fun h => absurd (hz.2 h) (by omega)) (fun h => by omega)⟩)) | exact bool_to_f (by first | (exact .inl (hz.1 (by omega))) | (exact ⟨fun h => .inr (by omega), fun h => h.elim (fun h => absurd (hz.2 h) (by omega)) (fun h => by omega)⟩)) | exact bool_to (by first | (exact .inl (hz.1 (by omega))) | (exact ⟨fun h => .inr (by omega), fun h => h.elim (fun h => absurd (hz.2 h) (by omega)) (fun h => by omega)⟩)) | exact bool_to_b (by first | (exact .inl (hz.1 (by omega))) | (exact ⟨fun h => .inr (by omega), fun h => h.elim (fun h => absurd (hz.2 h) (by omega)) (fun h => by omega)⟩)))
              · skip
                refine vl_end [(0, _), (1, _), (6, _), (10, _), (56, _)] ⟨rfl, rfl, rfl, rfl, rfl, trivial⟩ ?_
                refine then_next ?_
                refine vc_decideU rfl (fun h56 => ?_) (fun h56 => ?_)
                · skip
                  have hR2 := rdC_err3 hrd' (by omega) (by omega) (by omega) (by omega) h56
                  obtain ⟨rfl, rfl, rfl⟩ := trip hR2
                  refine vc_seq ?_
                  refine vc_region ?_
                  refine vl_det (det_assign rfl) rfl ?_
                  refine vl_det (det_assign rfl) rfl ?_
                  refine vl_end [(4, _), (5, _)] ⟨rfl, rfl, trivial⟩ ?_
                  refine then_next ?_
                  refine vc_ret ?_
                  refine then_ret ?_
                  refine in_ret ?_
                  refine loop_ret ?_
                  refine in_ret ?_
                  refine then_ret ?_
                  refine ret_wk (wk_blk rfl (wk_own rfl rfl (.skip (.refl _)))) ?_
                  refine ret2 rfl rfl rfl ?_
                  exact ⟨none, 0, rfl, rfl⟩
                · skip
                  have hrn := rdC_run hrd' (by omega) (by omega) (by omega) (by omega) h56
                  have hl2 : (acc ++ List.replicate (gtV q (gtP q p 4) 6 + 1) (0 : UInt8)).length = acc.length + (gtV q (gtP q p 4) 6 + 1) := by simp
                  have hnn : acc.length + gtV q (gtP q p 4) 6 < N := by by_cases h : N ≤ acc.length + gtV q (gtP q p 4) 6; exact absurd (.inr h) h56; omega
                  refine vc_skip ?_
                  refine then_next ?_
                  refine vc_seq ?_
                  refine vc_region ?_
                  refine vl_det (det_move rfl) rfl ?_
                  refine vl_det (det_conv Try.underlying39 Try.underlying3 rfl (w_i64 (by omega) (by omega))) rfl ?_
                  refine vl_det (det_add rfl rfl (w_i64 (by omega) (by omega))) rfl ?_
                  refine vl_det (det_assign rfl) rfl ?_
                  refine vl_end [(0, _), (1, _), (6, _), (7, _)] ⟨rfl, rfl, rfl, rfl, trivial⟩ ?_
                  refine then_next ?_
                  refine vc_seq ?_
                  refine vc_region ?_
                  refine vl_det (det_assign rfl) rfl ?_
                  refine vl_end [(0, _), (1, _), (6, _), (7, _), (11, _)] ⟨rfl, rfl, rfl, rfl, rfl, trivial⟩ ?_
                  refine then_next ?_
                  refine vc_block ?_
                  refine vc_loopJ (fun zf zL zm => ∃ (m : Nat) (A6 : Option Addr) (c6 : Nat), (m ≤ gtV q (gtP q p 4) 6 + 1) ∧ gtV q (gtP q p 4) 6 + 1 - m = zm ∧ Sub zf [(0, .pointer (some ⟨g, 0, none⟩)), (1, .int .i64 N), (6, .slice A6 (acc.length + m) c6), (7, .int .i64 (gtV q (gtP q p 4) 6 + 1 : Nat)), (11, .int .i64 m)] ∧ Wk zL (Rf g A c q (gtP q (gtP q p 4) 6) (.own 5 1 A6 (acc.length + m) c6 (bv (acc ++ List.replicate m 0)) :: .own 5 1 none 0 0 [] :: F))) _ ⟨0, A6, c6, Nat.zero_le _, rfl, ⟨(by first | rfl | exact int_to (by omega)), (by first | rfl | exact int_to (by omega)), (by first | rfl | exact int_to (by omega)), (by first | rfl | exact int_to (by omega)), (by first | rfl | exact int_to (by omega)), trivial⟩, wk_blk rfl (wk_own rfl rfl (wk_own rfl (by simp) (.refl _)))⟩ ?_
                  rintro _ _ _ ⟨m, A6, c6, hm, rfl, hs, hp⟩
                  refine vc_weaken _ hs (vc_wk hp ?_)
                  clear hs hp
                  refine vc_seq ?_
                  refine vc_seq ?_
                  refine vc_region ?_
                  refine vl_det (det_move rfl) rfl ?_
                  refine vl_det (det_move rfl) rfl ?_
                  refine vl_det (det_lss rfl rfl) rfl ?_
                  refine vl_end [(0, _), (1, _), (6, _), (7, _), (11, _), (62, _)] ⟨rfl, rfl, rfl, rfl, rfl, rfl, trivial⟩ ?_
                  refine then_next ?_
                  refine vc_decideU rfl (fun h62 => ?_) (fun h62 => ?_)
                  · skip
                    refine vc_skip ?_
                    refine then_next ?_
                    refine vc_seq ?_
                    refine vc_block ?_
                    refine vc_region ?_
                    refine vl_det (det_move rfl) rfl ?_
                    refine vl_push slT22 rfl rfl rfl rfl rfl (fun _ => rfl) (by repeat (first | exact .hd | apply Sel.tl)) (by omega) (by omega) ?_
                    intro _ A67 c67
                    refine vl_det (det_assign rfl) rfl ?_
                    refine vl_end [(0, _), (1, _), (6, _), (7, _), (11, _)] ⟨rfl, rfl, rfl, rfl, rfl, trivial⟩ ?_
                    refine in_normal ?_
                    refine then_next ?_
                    refine vc_region ?_
                    refine vl_det (det_move rfl) rfl ?_
                    refine vl_det (det_add rfl rfl (w_i64 (by omega) (by omega))) rfl ?_
                    refine vl_det (det_assign rfl) rfl ?_
                    refine vl_end [(0, _), (1, _), (6, _), (7, _), (11, _)] ⟨rfl, rfl, rfl, rfl, rfl, trivial⟩ ?_
                    refine in_loop_ ⟨_, by omega, m + 1, A67, c67, by omega, rfl, ⟨(by first | rfl | exact int_to (by omega)), (by first | rfl | exact int_to (by omega)), (by first | rfl | exact int_to (by omega)), (by first | rfl | exact int_to (by omega)), (by first | rfl | exact int_to (by omega)), trivial⟩, wk_blk rfl (wk_own rfl rfl (wk_own rfl (rep_more acc m) (.refl _)))⟩
                  · skip
                    have hme : m = gtV q (gtP q p 4) 6 + 1 := by omega
                    subst hme
                    rw [← hl2]
                    refine vc_exit ?_
                    refine then_exit ?_
                    refine loop_exit ?_
                    refine in_eq ?_
                    refine in_normal ?_
                    refine in_loop_ ⟨_, by omega, f', gtP q (gtP q p 4) 6, acc ++ List.replicate (gtV q (gtP q p 4) 6 + 1) 0, decide (((gtV q (gtP q p 4) 6 : Nat) : Int) + 1 < 64), A6, c6, ((gtV q (gtP q p 4) 6 + 1 : Nat) : Int), ⟨by omega, by omega, hp6, hrn, by rw [decide_eq_true_iff]; omega⟩, rfl, ⟨(by first | rfl | exact int_to (by omega)), (by first | rfl | exact int_to (by omega)), (by first | rfl | exact int_to (by omega)), (by first | rfl | exact int_to (by omega)), trivial⟩, .refl _⟩
      · skip
        refine vc_exit ?_
        refine then_exit ?_
        refine loop_exit ?_
        refine in_eq ?_
        refine then_next ?_
        refine vc_seq ?_
        refine vc_seq ?_
        have hre := rdC_end hrd (by omega)
        refine vc_region ?_
        refine vl_det (det_move rfl) rfl ?_
        refine vl_call co12 rfl (rcheck_d acc (by first | (exact Bor.own (by repeat (first | exact List.Mem.head _ | apply List.Mem.tail))) | (repeat (first | assumption | apply Bor.cons)))) rfl ?_
        rintro _ _ ⟨rfl, hLL⟩
        obtain rfl := hLL.symm
        refine vl_det (det_neq rfl rfl) rfl ?_
        refine vl_end [(6, _), (70, _)] ⟨rfl, rfl, trivial⟩ ?_
        refine then_next ?_
        refine vc_decideU rfl (fun h70 => ?_) (fun h70 => ?_)
        · skip
          have hfn := fin_no (p := p) (show ¬ chk acc = 0 by omega)
          rw [hfn.1] at hre
          obtain ⟨rfl, rfl, rfl⟩ := trip hre
          refine vc_seq ?_
          refine vc_region ?_
          refine vl_det (det_assign rfl) rfl ?_
          refine vl_det (det_assign rfl) rfl ?_
          refine vl_end [(4, _), (5, _)] ⟨rfl, rfl, trivial⟩ ?_
          refine then_next ?_
          refine vc_ret ?_
          refine then_ret ?_
          refine ret_wk (wk_blk rfl (wk_own rfl rfl (.skip (.refl _)))) ?_
          refine ret2 rfl rfl rfl ?_
          exact ⟨none, 0, rfl, rfl⟩
        · skip
          rw [fin_ok (show chk acc = 0 by omega)] at hre
          obtain ⟨rfl, rfl, rfl⟩ := trip hre
          refine vc_skip ?_
          refine then_next ?_
          refine vc_seq ?_
          refine vc_region ?_
          refine vl_det (det_move rfl) rfl ?_
          refine vl_det (det_assign rfl) rfl ?_
          refine vl_det (det_assign rfl) rfl ?_
          refine vl_end [(4, _), (5, _)] ⟨rfl, rfl, trivial⟩ ?_
          refine then_next ?_
          refine vc_ret ?_
          refine ret_wk (wk_blk rfl (wk_own rfl rfl (wk_own rfl rfl (.skip (.refl _))))) ?_
          refine ret2 rfl rfl rfl ?_
          exact ⟨A6, c6, rfl, rfl⟩
end Go.Proofs.Ytpdnohllbijonaa
