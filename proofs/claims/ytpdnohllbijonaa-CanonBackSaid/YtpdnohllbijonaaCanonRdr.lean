/-
  canon.Read, by frames. No condition.
-/
import Derived.Test.YtpdnohllbijonaaCanonRd
import Derived.Test.YtpdnohllbijonaaAppz
import Derived.Test.YtpdnohllbijonaaBitRdrp
namespace Go.Proofs.Ytpdnohllbijonaa
open Go.RowKit
set_option linter.unusedVariables false
variable {B : Nat} {w0 : World} {F : List Ch} {A : Option Addr} {c g : Nat}
theorem swp12 (x a b : Ch) (F : List Ch) : (x :: a :: b :: F).Perm (a :: b :: x :: F) := List.perm_append_comm_assoc [x] [a, b] F
theorem swp21 (x a b : Ch) (F : List Ch) : (a :: b :: x :: F).Perm (x :: a :: b :: F) := List.perm_append_comm_assoc [a, b] [x] F
theorem trip {a a' : List UInt8} {b b' : Int} {c c' : Nat} (h : (a, b, c) = (a', b', c')) : a = a' ∧ b = b' ∧ c = c' := by injection h with x y; injection y with y z; exact ⟨x, y, z⟩
theorem read_d (q : List Bool) (p0 : Nat) (hp0 : p0 ≤ q.length) (hq : q.length ≤ 8000000) (n : Int) (h1 : -9223372036854775808 ≤ n) (h2 : n ≤ 9223372036854775807) (acc' : List UInt8) (e' : Int) (p' : Nat) (hR : rdA q p0 n = (acc', e', p')) :
    Does Try.prog B w0 25 [.pointer (some ⟨g, 0, none⟩), .int .i64 n] (Rr g A c q p0 F) (fun r L => ∃ A' c', r = .tuple #[.slice A' acc'.length c', .int .i64 e'] ∧ L = Rr g A c q p' (.own 5 1 A' acc'.length c' (bv acc') :: F)) := by
  refine fn_walk Try.func25 70 rfl rfl rfl [(0, .pointer (some ⟨g, 0, none⟩)), (1, .int .i64 n)] ⟨⟨rfl, rfl⟩, ⟨rfl, rfl⟩, trivial⟩ ?_
  refine vc_seq ?_
  refine vc_region ?_
  refine vl_det (det_assign rfl) rfl ?_
  refine vl_det (det_assign rfl) rfl ?_
  refine vl_end [(0, _), (1, _)] ⟨rfl, rfl, trivial⟩ ?_
  refine then_next ?_
  refine vc_seq ?_
  refine vc_seq ?_
  refine vc_nil_row 5 1 none ?_
  refine vc_region ?_
  refine vl_cut 6 17 [(0, _), (1, _)] (n < 0 ∨ 300 < n) ⟨rfl, rfl, trivial⟩ ?_ ?_
  · skip
    refine vl_det (det_move rfl) rfl ?_
    refine vl_det (det_lss rfl rfl) rfl ?_
    refine vl_det (det_move rfl) rfl ?_
    refine vl_guardn rfl rfl rfl (fun h14 => ?_) (fun h14 => ?_)
    · skip
      refine vl_det (det_move rfl) rfl ?_
      refine vl_guard_t rfl rfl ?_
      refine vl_det (det_gtr rfl rfl) rfl ?_
      refine vl_det (det_pick_f rfl rfl) rfl ?_
      exact vl_cut_end ⟨rfl, rfl, trivial⟩ (by first | rfl | exact bool_to_t (by first | omega | (exact ⟨fun h => by omega, fun h => by omega⟩)) | exact bool_to_f (by first | omega | (exact ⟨fun h => by omega, fun h => by omega⟩)) | exact bool_to (by first | omega | (exact ⟨fun h => by omega, fun h => by omega⟩)) | exact bool_to_b (by first | omega | (exact ⟨fun h => by omega, fun h => by omega⟩)))
    · skip
      refine vl_guard_f rfl rfl rfl rfl ?_
      refine vl_det (det_pick_t rfl rfl) rfl ?_
      exact vl_cut_end ⟨rfl, rfl, trivial⟩ (by first | rfl | exact bool_to_t (by first | omega | (exact ⟨fun h => by omega, fun h => by omega⟩)) | exact bool_to_f (by first | omega | (exact ⟨fun h => by omega, fun h => by omega⟩)) | exact bool_to (by first | omega | (exact ⟨fun h => by omega, fun h => by omega⟩)) | exact bool_to_b (by first | omega | (exact ⟨fun h => by omega, fun h => by omega⟩)))
  · skip
    refine vl_end [(0, _), (1, _), (17, _)] ⟨rfl, rfl, rfl, trivial⟩ ?_
    refine then_next ?_
    refine vc_decideU rfl (fun h17 => ?_) (fun h17 => ?_)
    · skip
      rw [rdA, if_pos h17] at hR
      obtain ⟨rfl, rfl, rfl⟩ := trip hR
      refine vc_seq ?_
      refine vc_region ?_
      refine vl_det (det_assign rfl) rfl ?_
      refine vl_det (det_assign rfl) rfl ?_
      refine vl_end [(4, _), (5, _)] ⟨rfl, rfl, trivial⟩ ?_
      refine then_next ?_
      refine vc_ret ?_
      refine then_ret ?_
      refine ret_wk (Wk.of_perm (swp12 _ _ _ _)) ?_
      refine ret2 rfl rfl rfl ?_
      exact ⟨none, 0, rfl, rfl⟩
    · skip
      obtain ⟨N, rfl⟩ := Int.eq_ofNat_of_zero_le (show 0 ≤ n by omega)
      rw [rdA, if_neg h17, Int.toNat_natCast] at hR
      refine vc_skip ?_
      refine then_next ?_
      refine vc_seq ?_
      refine vc_region ?_
      refine vl_det (det_move rfl) rfl ?_
      refine vl_eff (eff_make (nn := 0) slT22 rfl rfl rfl rfl rfl (by omega) (by omega) (by omega)) rfl ?_
      rintro _ _ ⟨A19, rfl, rfl⟩
      refine vl_det (det_assign rfl) rfl ?_
      refine vl_end [(0, _), (1, _), (6, _)] ⟨rfl, rfl, rfl, trivial⟩ ?_
      refine then_next ?_
      refine vc_seq ?_
      refine vc_region ?_
      refine vl_det (det_assign rfl) rfl ?_
      refine vl_end [(0, _), (1, _), (6, _), (7, _)] ⟨rfl, rfl, rfl, rfl, trivial⟩ ?_
      refine then_next ?_
      refine vc_seq ?_
      refine vc_block ?_
      refine vc_loopJ (fun zf zL zm => ∃ (f p : Nat) (acc : List UInt8) (s : Bool) (A6 : Option Addr), (acc.length ≤ N ∧ N ≤ acc.length + f ∧ p ≤ q.length ∧ rdC q N f p acc s = (acc', e', p')) ∧ N - acc.length = zm ∧ Sub zf [(0, .pointer (some ⟨g, 0, none⟩)), (1, .int .i64 N), (6, .slice A6 acc.length N), (7, .bool s)] ∧ Wk zL (Rr g A c q p (.own 5 1 A6 acc.length N (bv acc) :: .own 5 1 none 0 0 [] :: F))) _ ⟨N, p0, [], false, A19, ⟨Nat.zero_le _, by simp, hp0, hR⟩, rfl, ⟨(by first | rfl | exact int_to (by omega)), (by first | rfl | exact int_to (by omega)), (by first | rfl | exact int_to (by omega)), (by first | rfl | exact int_to (by omega)), trivial⟩, Wk.of_perm (swp22 _ _ _ _ _)⟩ ?_
      rintro _ _ _ ⟨f, p, acc, s, A6, ⟨hal, haf, hpq, hrd⟩, rfl, hs, hp⟩
      refine vc_weaken _ hs (vc_wk hp ?_)
      clear hs hp
      refine vc_seq ?_
      refine vc_seq ?_
      refine vc_region ?_
      refine vl_det (det_move rfl) rfl ?_
      refine vl_det (det_len_sl Try.underlying22 rfl) rfl ?_
      refine vl_det (det_move rfl) rfl ?_
      refine vl_det (det_lss rfl rfl) rfl ?_
      refine vl_end [(0, _), (1, _), (6, _), (7, _), (23, _)] ⟨rfl, rfl, rfl, rfl, rfl, trivial⟩ ?_
      refine then_next ?_
      refine vc_decideU rfl (fun h23 => ?_) (fun h23 => ?_)
      · skip
        obtain ⟨f', rfl, haf', hrd'⟩ := rdC_succ hrd haf (by omega)
        have hv4 : gtV q p 4 < 16 := gtV_lt q p (n := 4) (by omega)
        have hv6 : gtV q (gtP q p 4) 6 < 64 := gtV_lt q (gtP q p 4) (n := 6) (by omega)
        have hp4 := gtP_le (q := q) (p := p) 4 hpq
        have hp6 := gtP_le (q := q) (p := gtP q p 4) 6 hp4
        refine vc_skip ?_
        refine then_next ?_
        refine vc_block ?_
        refine vc_seq ?_
        refine vc_region ?_
        refine vl_det (det_move rfl) rfl ?_
        refine vl_call co35 rfl (get_d q p hpq hq 4 (by omega) (by omega)) rfl ?_
        rintro _ _ ⟨rfl, hLL⟩
        obtain rfl := hLL.symm
        refine vl_det (det_move rfl) rfl ?_
        refine vl_det (det_extract rfl rfl) rfl ?_
        refine vl_det (det_extract rfl rfl) rfl ?_
        refine vl_det (det_assign rfl) rfl ?_
        refine vl_det (det_assign rfl) rfl ?_
        refine vl_end [(0, _), (1, _), (6, _), (7, _), (8, _), (9, _)] ⟨rfl, rfl, rfl, rfl, rfl, rfl, trivial⟩ ?_
        refine then_next ?_
        refine vc_seq ?_
        refine vc_seq ?_
        refine vc_region ?_
        refine vl_det (det_move rfl) rfl ?_
        refine vl_det (det_neq rfl rfl) rfl ?_
        refine vl_end [(0, _), (1, _), (6, _), (7, _), (8, _), (9, _), (30, _)] ⟨rfl, rfl, rfl, rfl, rfl, rfl, rfl, trivial⟩ ?_
        refine then_next ?_
        refine vc_decideU rfl (fun h30 => ?_) (fun h30 => ?_)
        · skip
          have hR2 := rdC_err hrd' (by omega) h30
          obtain ⟨rfl, rfl, rfl⟩ := trip hR2
          refine vc_seq ?_
          refine vc_region ?_
          refine vl_det (det_move rfl) rfl ?_
          refine vl_det (det_assign rfl) rfl ?_
          refine vl_det (det_assign rfl) rfl ?_
          refine vl_end [(4, _), (5, _)] ⟨rfl, rfl, trivial⟩ ?_
          refine then_next ?_
          refine vc_ret ?_
          refine then_ret ?_
          refine in_ret ?_
          refine loop_ret ?_
          refine in_ret ?_
          refine then_ret ?_
          refine ret_wk (wk_blk rfl (wk_own rfl rfl (.skip (.refl _)))) ?_
          refine ret2 rfl rfl rfl ?_
          exact ⟨none, 0, rfl, rfl⟩
        · skip
          refine vc_skip ?_
          refine then_next ?_
          refine vc_seq ?_
          refine vc_seq ?_
          refine vc_region ?_
          refine vl_det (det_move rfl) rfl ?_
          refine vl_det (det_gtr rfl rfl) rfl ?_
          refine vl_end [(0, _), (1, _), (6, _), (7, _), (8, _), (33, _)] ⟨rfl, rfl, rfl, rfl, rfl, rfl, trivial⟩ ?_
          refine then_next ?_
          refine vc_decideU rfl (fun h33 => ?_) (fun h33 => ?_)
          · skip
            have hrn := rdC_one hrd' (by omega) (by omega) (by omega)
            have hl1 : (acc ++ [UInt8.ofNat (gtV q p 4)]).length = acc.length + 1 := by simp
            refine vc_seq ?_
            refine vc_region ?_
            refine vl_det (det_move rfl) rfl ?_
            refine vl_det (det_move rfl) rfl ?_
            refine vl_det (det_conv Try.underlying39 Try.underlying5 rfl (w_u8 (by omega) (by omega))) rfl ?_
            refine vl_eff (eff_build1 slT22 rfl rfl) rfl ?_
            rintro _ _ ⟨A37, rfl, rfl⟩
            refine vl_eff (eff_app_room slT22 rfl (by repeat (first | exact .hd | apply Sel.tl)) rfl (by first | (exact Bor.own (by repeat (first | exact List.Mem.head _ | apply List.Mem.tail))) | (repeat (first | assumption | apply Bor.cons))) (by simp [Value.oneCell']) (by omega) (by omega)) rfl ?_
            rintro _ _ ⟨rfl, rfl⟩
            rw [← hl1]
            refine vl_det (det_assign rfl) rfl ?_
            refine vl_end [(0, _), (1, _), (6, _)] ⟨rfl, rfl, rfl, trivial⟩ ?_
            refine then_next ?_
            refine vc_seq ?_
            refine vc_region ?_
            refine vl_det (det_assign rfl) rfl ?_
            refine vl_end [(0, _), (1, _), (6, _), (7, _)] ⟨rfl, rfl, rfl, rfl, trivial⟩ ?_
            refine then_next ?_
            refine vc_exit ?_
            refine then_exit ?_
            refine in_eq ?_
            refine in_loop_ ⟨_, by omega, f', gtP q p 4, acc ++ [UInt8.ofNat (gtV q p 4)], false, A6, ⟨by simp; omega, by simp; omega, hp4, hrn⟩, rfl, ⟨(by first | rfl | exact int_to (by omega)), (by first | rfl | exact int_to (by omega)), (by first | rfl | exact int_to (by omega)), (by first | rfl | exact int_to (by omega)), trivial⟩, .skip (wk_blk rfl (wk_own rfl rfl (wk_own rfl (bv_of (by omega) _) (.refl _))))⟩
          · skip
            refine vc_skip ?_
            refine then_next ?_
            refine vc_seq ?_
            refine vc_region ?_
            refine vl_det (det_move rfl) rfl ?_
            refine vl_call co35 rfl (get_d q (gtP q p 4) hp4 hq 6 (by omega) (by omega)) rfl ?_
            rintro _ _ ⟨rfl, hLL⟩
            obtain rfl := hLL.symm
            refine vl_det (det_move rfl) rfl ?_
            refine vl_det (det_extract rfl rfl) rfl ?_
            refine vl_det (det_extract rfl rfl) rfl ?_
            refine vl_det (det_assign rfl) rfl ?_
            refine vl_det (det_assign rfl) rfl ?_
            refine vl_end [(0, _), (1, _), (6, _), (7, _), (9, _), (10, _)] ⟨rfl, rfl, rfl, rfl, rfl, rfl, trivial⟩ ?_
            refine then_next ?_
            refine vc_seq ?_
            refine vc_seq ?_
            refine vc_region ?_
            refine vl_det (det_move rfl) rfl ?_
            refine vl_det (det_neq rfl rfl) rfl ?_
            refine vl_end [(0, _), (1, _), (6, _), (7, _), (9, _), (10, _), (45, _)] ⟨rfl, rfl, rfl, rfl, rfl, rfl, rfl, trivial⟩ ?_
            refine then_next ?_
            refine vc_decideU rfl (fun h45 => ?_) (fun h45 => ?_)
            · skip
              have hR2 := rdC_err2 hrd' (by omega) (by omega) (by omega) h45
              obtain ⟨rfl, rfl, rfl⟩ := trip hR2
              refine vc_seq ?_
              refine vc_region ?_
              refine vl_det (det_move rfl) rfl ?_
              refine vl_det (det_assign rfl) rfl ?_
              refine vl_det (det_assign rfl) rfl ?_
              refine vl_end [(4, _), (5, _)] ⟨rfl, rfl, trivial⟩ ?_
              refine then_next ?_
              refine vc_ret ?_
              refine then_ret ?_
              refine in_ret ?_
              refine loop_ret ?_
              refine in_ret ?_
              refine then_ret ?_
              refine ret_wk (wk_blk rfl (wk_own rfl rfl (.skip (.refl _)))) ?_
              refine ret2 rfl rfl rfl ?_
              exact ⟨none, 0, rfl, rfl⟩
            · skip
              refine vc_skip ?_
              refine then_next ?_
              refine vc_seq ?_
              refine vc_seq ?_
              refine vc_region ?_
              refine vl_cut 10 56 [(0, _), (1, _), (6, _), (10, _)] (s = true ∨ N ≤ acc.length + gtV q (gtP q p 4) 6) ⟨rfl, rfl, rfl, rfl, trivial⟩ ?_ ?_
              · skip
                refine vl_det (det_move rfl) rfl ?_
                refine vl_det (det_move rfl) rfl ?_
                refine vl_guard rfl rfl rfl (fun h48 => ?_) (fun h48 => ?_)
                · skip
                  refine vl_det (det_move rfl) rfl ?_
                  refine vl_guard_t rfl rfl ?_
                  refine vl_det (det_conv Try.underlying39 Try.underlying3 rfl (w_i64 (by omega) (by omega))) rfl ?_
                  refine vl_guard_t rfl rfl ?_
                  refine vl_det (det_move rfl) rfl ?_
                  refine vl_guard_t rfl rfl ?_
                  refine vl_det (det_move rfl) rfl ?_
                  refine vl_guard_t rfl rfl ?_
                  refine vl_det (det_len_sl Try.underlying22 rfl) rfl ?_
                  refine vl_guard_t rfl rfl ?_
                  refine vl_det (det_sub rfl rfl (w_i64 (by omega) (by omega))) rfl ?_
                  refine vl_guard_t rfl rfl ?_
                  refine vl_det (det_geq rfl rfl) rfl ?_
                  refine vl_det (det_pick_f rfl rfl) rfl ?_
                  exact vl_cut_end ⟨rfl, rfl, rfl, rfl, trivial⟩ (by first | rfl | exact bool_to_t (by first | (exact .inl (by simpa using h48)) | (exact ⟨fun h => .inr (by omega), fun h => h.elim (fun h => by simp_all) (fun h => by omega)⟩)) | exact bool_to_f (by first | (exact .inl (by simpa using h48)) | (exact ⟨fun h => .inr (by omega), fun h => h.elim (fun h => by simp_all) (fun h => by omega)⟩)) | exact bool_to (by first | (exact .inl (by simpa using h48)) | (exact ⟨fun h => .inr (by omega), fun h => h.elim (fun h => by simp_all) (fun h => by omega)⟩)) | exact bool_to_b (by first | (exact .inl (by simpa using h48)) | (exact ⟨fun h => .inr (by omega), fun h => h.elim (fun h => by simp_all) (fun h => by omega)⟩)))
                · skip
                  refine vl_guard_f rfl rfl rfl rfl ?_
                  refine vl_guard_f rfl rfl rfl rfl ?_
                  refine vl_guard_f rfl rfl rfl rfl ?_
                  refine vl_guard_f rfl rfl rfl rfl ?_
                  refine vl_guard_f rfl rfl rfl rfl ?_
                  refine vl_guard_f rfl rfl rfl rfl ?_
                  refine vl_det (det_pick_t rfl rfl) rfl ?_
                  exact vl_cut_end ⟨rfl, rfl, rfl, rfl, trivial⟩ (by first | rfl | exact bool_to_t (by first | (exact .inl (by simpa using h48)) | (exact ⟨fun h => .inr (by omega), fun h => h.elim (fun h => by simp_all) (fun h => by omega)⟩)) | exact bool_to_f (by first | (exact .inl (by simpa using h48)) | (exact ⟨fun h => .inr (by omega), fun h => h.elim (fun h => by simp_all) (fun h => by omega)⟩)) | exact bool_to (by first | (exact .inl (by simpa using h48)) | (exact ⟨fun h => .inr (by omega), fun h => h.elim (fun h => by simp_all) (fun h => by omega)⟩)) | exact bool_to_b (by first | (exact .inl (by simpa using h48)) | (exact ⟨fun h => .inr (by omega), fun h => h.elim (fun h => by simp_all) (fun h => by omega)⟩)))
              · skip
                refine vl_end [(0, _), (1, _), (6, _), (10, _), (56, _)] ⟨rfl, rfl, rfl, rfl, rfl, trivial⟩ ?_
                refine then_next ?_
                refine vc_decideU rfl (fun h56 => ?_) (fun h56 => ?_)
                · skip
                  have hR2 := rdC_err3 hrd' (by omega) (by omega) (by omega) (by omega) h56
                  obtain ⟨rfl, rfl, rfl⟩ := trip hR2
                  refine vc_seq ?_
                  refine vc_region ?_
                  refine vl_det (det_assign rfl) rfl ?_
                  refine vl_det (det_assign rfl) rfl ?_
                  refine vl_end [(4, _), (5, _)] ⟨rfl, rfl, trivial⟩ ?_
                  refine then_next ?_
                  refine vc_ret ?_
                  refine then_ret ?_
                  refine in_ret ?_
                  refine loop_ret ?_
                  refine in_ret ?_
                  refine then_ret ?_
                  refine ret_wk (wk_blk rfl (wk_own rfl rfl (.skip (.refl _)))) ?_
                  refine ret2 rfl rfl rfl ?_
                  exact ⟨none, 0, rfl, rfl⟩
                · skip
                  have hrn := rdC_run hrd' (by omega) (by omega) (by omega) (by omega) h56
                  have hl2 : (acc ++ List.replicate (gtV q (gtP q p 4) 6 + 1) (0 : UInt8)).length = acc.length + (gtV q (gtP q p 4) 6 + 1) := by simp
                  have hnn : acc.length + gtV q (gtP q p 4) 6 < N := by by_cases h : N ≤ acc.length + gtV q (gtP q p 4) 6; exact absurd (.inr h) h56; omega
                  refine vc_skip ?_
                  refine then_next ?_
                  refine vc_seq ?_
                  refine vc_region ?_
                  refine vl_det (det_move rfl) rfl ?_
                  refine vl_det (det_move rfl) rfl ?_
                  refine vl_det (det_add rfl rfl (w_u64 (by omega) (by omega))) rfl ?_
                  refine vl_eff (eff_appz (m := gtV q (gtP q p 4) 6 + 1) slT22 Try.underlying39 rfl (by repeat (first | exact .hd | apply Sel.tl)) rfl (by omega) (by omega) (by omega) (by omega) (by omega)) rfl ?_
                  rintro _ _ ⟨rfl, rfl⟩
                  rw [← hl2]
                  refine vl_det (det_assign rfl) rfl ?_
                  refine vl_end [(0, _), (1, _), (6, _), (10, _)] ⟨rfl, rfl, rfl, rfl, trivial⟩ ?_
                  refine then_next ?_
                  refine vc_region ?_
                  refine vl_det (det_move rfl) rfl ?_
                  refine vl_det (det_add rfl rfl (w_u64 (by omega) (by omega))) rfl ?_
                  refine vl_det (det_lss rfl rfl) rfl ?_
                  refine vl_det (det_assign rfl) rfl ?_
                  refine vl_end [(0, _), (1, _), (6, _), (7, _)] ⟨rfl, rfl, rfl, rfl, trivial⟩ ?_
                  refine in_normal ?_
                  refine in_loop_ ⟨_, by omega, f', gtP q (gtP q p 4) 6, acc ++ List.replicate (gtV q (gtP q p 4) 6 + 1) 0, _, A6, ⟨by simp; omega, by simp; omega, hp6, hrn⟩, rfl, ⟨(by first | rfl | exact int_to (by omega)), (by first | rfl | exact int_to (by omega)), (by first | rfl | exact int_to (by omega)), (by first | rfl | exact int_to (by omega)), trivial⟩, wk_blk rfl (wk_own rfl rfl (wk_own rfl (bv_zeros _ _) (.refl _)))⟩
      · skip
        refine vc_exit ?_
        refine then_exit ?_
        refine loop_exit ?_
        refine in_eq ?_
        refine then_next ?_
        refine vc_seq ?_
        refine vc_seq ?_
        have hre := rdC_end hrd (by omega)
        refine vc_region ?_
        refine vl_det (det_move rfl) rfl ?_
        refine vl_call co11 rfl (check_d acc (by first | (exact Bor.own (by repeat (first | exact List.Mem.head _ | apply List.Mem.tail))) | (repeat (first | assumption | apply Bor.cons)))) rfl ?_
        rintro _ _ ⟨rfl, hLL⟩
        obtain rfl := hLL.symm
        refine vl_det (det_assign rfl) rfl ?_
        refine vl_end [(6, _), (11, _)] ⟨rfl, rfl, trivial⟩ ?_
        refine then_next ?_
        refine vc_seq ?_
        refine vc_region ?_
        refine vl_det (det_move rfl) rfl ?_
        refine vl_det (det_neq rfl rfl) rfl ?_
        refine vl_end [(6, _), (11, _), (67, _)] ⟨rfl, rfl, rfl, trivial⟩ ?_
        refine then_next ?_
        refine vc_decideU rfl (fun h67 => ?_) (fun h67 => ?_)
        · skip
          have hfn := fin_no (p := p) (show ¬ chk acc = 0 by omega)
          rw [hfn.1] at hre
          obtain ⟨rfl, rfl, rfl⟩ := trip hre
          refine vc_seq ?_
          refine vc_region ?_
          refine vl_det (det_move rfl) rfl ?_
          refine vl_det (det_assign rfl) rfl ?_
          refine vl_det (det_assign rfl) rfl ?_
          refine vl_end [(4, _), (5, _)] ⟨rfl, rfl, trivial⟩ ?_
          refine then_next ?_
          refine vc_ret ?_
          refine then_ret ?_
          refine ret_wk (wk_blk rfl (wk_own rfl rfl (.skip (.refl _)))) ?_
          refine ret2 rfl rfl rfl ?_
          rw [hfn.2]
          exact ⟨none, 0, rfl, rfl⟩
        · skip
          rw [fin_ok (show chk acc = 0 by omega)] at hre
          obtain ⟨rfl, rfl, rfl⟩ := trip hre
          refine vc_skip ?_
          refine then_next ?_
          refine vc_seq ?_
          refine vc_region ?_
          refine vl_det (det_move rfl) rfl ?_
          refine vl_det (det_assign rfl) rfl ?_
          refine vl_det (det_assign rfl) rfl ?_
          refine vl_end [(4, _), (5, _)] ⟨rfl, rfl, trivial⟩ ?_
          refine then_next ?_
          refine vc_ret ?_
          have hNe : acc'.length = N := by omega
          refine ret_wk (wk_blk rfl (wk_own rfl rfl (wk_own rfl rfl (.skip (.refl _))))) ?_
          refine ret2 rfl rfl rfl ?_
          exact ⟨A6, N, rfl, rfl⟩
end Go.Proofs.Ytpdnohllbijonaa
