/-
  Texts of one proof, joined: part 9. No condition.
-/
import Derived.Test.YtpamjobiohbibaaMp8
namespace Go.Proofs.Ytpamjobiohbibaa
open Go.RowKit
set_option linter.unusedVariables false
set_option maxRecDepth 20000
variable {B : Nat} {w0 : World} {F : List Ch} {A : Option Addr} {n c g : Nat} {bt : TypeId} {f : Ch → List Ch}
abbrev Wf (g : Nat) (bt : TypeId) (A : Option Addr) (c : Nat) (q : List Bool) (F : List Ch) : List Ch := .blk g bt [.slice A q.length c] :: .own 5 1 A q.length c (bv (ref q)) :: F
theorem wf_eq {q q' : List Bool} {b : Bool} {A' : Option Addr} {c' m : Nat} {xs : List Value} (hm : m = q.length + 1) (hx : xs = bv (ref q) ++ [.int .u8 b.toNat]) (hq : q' = q ++ [b]) : Wk (.blk g bt [.slice A' m c'] :: .own 5 1 A' m c' xs :: F) (Wf g bt A' c' q' F) := by
  subst hx
  subst hq
  exact wk_blk (by rw [hm]; simp) (wk_own (by rw [hm]; simp) (by rw [ref_app, bv_add, ref_bit]) (.refl _))
theorem rput_d (q : List Bool) (v : Nat) (hv : v < 18446744073709551616) (n : Nat) (hn : n ≤ 64) (hp : v < 2 ^ n) (hq : q.length ≤ 7000000) :
    Does Try.prog B w0 76 [.pointer (some ⟨g, 0, none⟩), .int .u64 v, .int .i64 n] (Wf g bt A c q F)
      (fun r L => r = .int .i64 0 ∧ ∃ A' c', L = Wf g bt A' c' (q ++ hi v n n) F) := by
  refine fn_walk Try.func76 50 rfl rfl rfl [(0, .pointer (some ⟨g, 0, none⟩)), (1, .int .u64 v), (2, .int .i64 n)] ⟨⟨rfl, rfl⟩, ⟨rfl, rfl⟩, ⟨rfl, rfl⟩, trivial⟩ ?_
  refine vc_seq ?_
  refine vc_region ?_
  refine vl_det (det_assign rfl) rfl ?_
  refine vl_end [(0, _), (1, _), (2, _)] ⟨rfl, rfl, rfl, trivial⟩ ?_
  refine then_next ?_
  refine vc_seq ?_
  refine vc_seq ?_
  refine vc_region ?_
  refine vl_cut 6 15 [(0, _), (1, _), (2, _)] (False) ⟨rfl, rfl, rfl, trivial⟩ ?_ ?_
  · skip
    refine vl_det (det_move rfl) rfl ?_
    refine vl_det (det_lss rfl rfl) rfl ?_
    refine vl_det (det_move rfl) rfl ?_
    refine vl_guardn rfl rfl rfl (fun h12 => ?_) (fun h12 => ?_)
    · skip
      refine vl_det (det_move rfl) rfl ?_
      refine vl_guard_t rfl rfl ?_
      refine vl_det (det_gtr rfl rfl) rfl ?_
      refine vl_det (det_pick_f rfl rfl) rfl ?_
      exact vl_cut_end ⟨rfl, rfl, rfl, trivial⟩ (by first | rfl | exact bool_to_t (by first | (exact ⟨fun h => absurd h (by omega), False.elim⟩) | omega) | exact bool_to_f (by first | (exact ⟨fun h => absurd h (by omega), False.elim⟩) | omega) | exact bool_to (by first | (exact ⟨fun h => absurd h (by omega), False.elim⟩) | omega) | exact bool_to_b (by first | (exact ⟨fun h => absurd h (by omega), False.elim⟩) | omega))
    · skip
      refine vl_guard_f rfl rfl rfl rfl ?_
      refine vl_det (det_pick_t rfl rfl) rfl ?_
      exact vl_cut_end ⟨rfl, rfl, rfl, trivial⟩ (by first | rfl | exact bool_to_t (by first | (exact ⟨fun h => absurd h (by omega), False.elim⟩) | omega) | exact bool_to_f (by first | (exact ⟨fun h => absurd h (by omega), False.elim⟩) | omega) | exact bool_to (by first | (exact ⟨fun h => absurd h (by omega), False.elim⟩) | omega) | exact bool_to_b (by first | (exact ⟨fun h => absurd h (by omega), False.elim⟩) | omega))
  · skip
    refine vl_end [(0, _), (1, _), (2, _), (15, _)] ⟨rfl, rfl, rfl, rfl, trivial⟩ ?_
    refine then_next ?_
    refine vc_decideU rfl (fun h15 => ?_) (fun h15 => ?_)
    · skip
      exfalso; omega
    · skip
      refine vc_skip ?_
      refine then_next ?_
      refine vc_seq ?_
      refine vc_region ?_
      refine vl_det (det_assign rfl) rfl ?_
      refine vl_end [(0, _), (1, _), (2, _), (7, _)] ⟨rfl, rfl, rfl, rfl, trivial⟩ ?_
      refine then_next ?_
      refine vc_seq ?_
      refine vc_seq ?_
      refine vc_nil_row 5 1 none ?_
      refine vc_region ?_
      refine vl_det (det_assign rfl) rfl ?_
      refine vl_end [(0, _), (1, _), (2, _), (7, _), (8, _)] ⟨rfl, rfl, rfl, rfl, rfl, trivial⟩ ?_
      refine then_next ?_
      refine vc_block ?_
      refine vc_loopJ (fun zf zL zm => ∃ (m : Nat) (A7 : Option Addr) (c7 : Nat), (m ≤ n) ∧ n - m = zm ∧ Sub zf [(0, .pointer (some ⟨g, 0, none⟩)), (1, .int .u64 (v / 2 ^ m : Nat)), (2, .int .i64 n), (7, .slice A7 m c7), (8, .int .i64 m)] ∧ Wk zL (.own 5 1 A7 m c7 (bv (ref (lo v m))) :: Wf g bt A c q F)) _ ⟨0, none, 0, Nat.zero_le _, rfl, ⟨(by first | rfl | exact int_to (by omega) | exact sl_to (by omega)), (by first | rfl | exact int_to (by omega) | exact sl_to (by omega)), (by first | rfl | exact int_to (by omega) | exact sl_to (by omega)), (by first | rfl | exact int_to (by omega) | exact sl_to (by omega)), (by first | rfl | exact int_to (by omega) | exact sl_to (by omega)), trivial⟩, wk_own rfl rfl (.refl _)⟩ ?_
      rintro _ _ _ ⟨m, A7, c7, hm, rfl, hs, hp⟩
      refine vc_weaken _ hs (vc_wk hp ?_)
      clear hs hp
      refine vc_seq ?_
      refine vc_seq ?_
      refine vc_region ?_
      refine vl_det (det_move rfl) rfl ?_
      refine vl_det (det_move rfl) rfl ?_
      refine vl_det (det_lss rfl rfl) rfl ?_
      refine vl_end [(0, _), (1, _), (2, _), (7, _), (8, _), (18, _)] ⟨rfl, rfl, rfl, rfl, rfl, rfl, trivial⟩ ?_
      refine then_next ?_
      refine vc_decideU rfl (fun h18 => ?_) (fun h18 => ?_)
      · skip
        refine vc_skip ?_
        refine then_next ?_
        refine vc_seq ?_
        refine vc_block ?_
        refine vc_seq ?_
        refine vc_region ?_
        refine vl_det (det_move rfl) rfl ?_
        refine vl_det (det_move rfl) rfl ?_
        refine vl_det (det_rem rfl rfl (by omega) (tmod2 _)) rfl ?_
        refine vl_det (det_conv Try.underlying33 Try.underlying5 rfl (lo_bit v m)) rfl ?_
        refine vl_push slT41 rfl rfl rfl rfl rfl (fun _ => rfl) (by repeat (first | exact .hd | apply Sel.tl)) (by omega) (by omega) ?_
        intro _ A26 c26
        refine vl_det (det_assign rfl) rfl ?_
        refine vl_end [(0, _), (1, _), (2, _), (7, _), (8, _)] ⟨rfl, rfl, rfl, rfl, rfl, trivial⟩ ?_
        refine then_next ?_
        refine vc_region ?_
        refine vl_det (det_move rfl) rfl ?_
        refine vl_det (det_quo rfl rfl (by omega) (half_u64 m hv)) rfl ?_
        refine vl_det (det_assign rfl) rfl ?_
        refine vl_end [(0, _), (1, _), (2, _), (7, _), (8, _)] ⟨rfl, rfl, rfl, rfl, rfl, trivial⟩ ?_
        refine in_normal ?_
        refine then_next ?_
        refine vc_region ?_
        refine vl_det (det_move rfl) rfl ?_
        refine vl_det (det_add rfl rfl (w_i64 (by omega) (by omega))) rfl ?_
        refine vl_det (det_assign rfl) rfl ?_
        refine vl_end [(0, _), (1, _), (2, _), (7, _), (8, _)] ⟨rfl, rfl, rfl, rfl, rfl, trivial⟩ ?_
        refine in_loop_ ⟨_, by omega, m + 1, A26, c26, by omega, rfl, ⟨(by first | rfl | exact int_to (by omega) | exact sl_to (by omega)), (by first | rfl | exact int_to (by omega) | exact sl_to (by omega)), (by first | rfl | exact int_to (by omega) | exact sl_to (by omega)), (by first | rfl | exact int_to (by omega) | exact sl_to (by omega)), (by first | rfl | exact int_to (by omega) | exact sl_to (by omega)), trivial⟩, wk_own rfl (by rw [lo_succ, ref_app, bv_add, ref_bit]) (.refl _)⟩
      · skip
        refine vc_exit ?_
        refine then_exit ?_
        refine loop_exit ?_
        refine in_eq ?_
        refine then_next ?_
        refine vc_seq ?_
        refine vc_seq ?_
        refine vc_region ?_
        refine vl_det (det_move rfl) rfl ?_
        refine vl_det (det_neq rfl rfl) rfl ?_
        refine vl_end [(0, _), (2, _), (7, _), (30, _)] ⟨rfl, rfl, rfl, rfl, trivial⟩ ?_
        refine then_next ?_
        refine vc_decideU rfl (fun h30 => ?_) (fun h30 => ?_)
        · skip
          exfalso; exact h30 (by rw [show m = n by omega, Nat.div_eq_of_lt hp]; rfl)
        · skip
          refine vc_skip ?_
          refine then_next ?_
          refine vc_seq ?_
          refine vc_seq ?_
          refine vc_region ?_
          refine vl_det (det_move rfl) rfl ?_
          refine vl_det (det_sub rfl rfl (w_i64 (by omega) (by omega))) rfl ?_
          refine vl_det (det_assign rfl) rfl ?_
          refine vl_end [(0, _), (7, _), (9, _)] ⟨rfl, rfl, rfl, trivial⟩ ?_
          refine then_next ?_
          refine vc_block ?_
          have hmn : n = m := by omega
          subst hmn
          refine vc_loopJ (fun zf zL zm => ∃ (m2 : Nat) (A' : Option Addr) (c' : Nat), (m2 ≤ n) ∧ n - m2 = zm ∧ Sub zf [(0, .pointer (some ⟨g, 0, none⟩)), (7, .slice A7 n c7), (9, .int .i64 ((n : Int) - m2 - 1))] ∧ Wk zL (.own 5 1 A7 n c7 (bv (ref (lo v n))) :: Wf g bt A' c' (q ++ hi v n m2) F)) _ ⟨0, A, c, Nat.zero_le _, rfl, ⟨(by first | rfl | exact int_to (by omega) | exact sl_to (by omega)), (by first | rfl | exact int_to (by omega) | exact sl_to (by omega)), (by first | rfl | exact int_to (by omega) | exact sl_to (by omega)), trivial⟩, wk_own rfl rfl (wk_blk (by rw [hi_zero, List.append_nil]) (wk_own (by rw [hi_zero, List.append_nil]) (by rw [hi_zero, List.append_nil]) (.refl _)))⟩ ?_
          rintro _ _ _ ⟨m2, A', c', hm2, rfl, hs, hp⟩
          refine vc_weaken _ hs (vc_wk hp ?_)
          clear hs hp
          have hll : (q ++ hi v n m2).length = q.length + m2 := by rw [List.length_append, hi_length]
          have hrl := ref_length (lo v n)
          have hlo := lo_length v n
          refine vc_seq ?_
          refine vc_seq ?_
          refine vc_region ?_
          refine vl_det (det_move rfl) rfl ?_
          refine vl_det (det_geq rfl rfl) rfl ?_
          refine vl_end [(0, _), (7, _), (9, _), (34, _)] ⟨rfl, rfl, rfl, rfl, trivial⟩ ?_
          refine then_next ?_
          refine vc_decideU rfl (fun h34 => ?_) (fun h34 => ?_)
          · skip
            refine vc_skip ?_
            refine then_next ?_
            refine vc_seq ?_
            refine vc_block ?_
            refine vh_region (S := .own 5 1 A7 n c7 (bv (ref (lo v n))) :: F) (by kernel_rfl) (by repeat (first | exact List.Sublist.refl _ | exact List.nil_sublist _ | apply List.Sublist.cons_cons | apply List.Sublist.cons)) ?_
            refine vh_take 0 rfl (by kernel_rfl) (by kernel_rfl) (by kernel_rfl) (det_move rfl) rfl ?_
            refine vh_take 1 rfl (by kernel_rfl) (by kernel_rfl) (by kernel_rfl) (det_move rfl) rfl ?_
            refine vh_take 2 rfl (by kernel_rfl) (by kernel_rfl) (by kernel_rfl) (det_nilCheck rfl) rfl ?_
            refine vh_take 3 rfl (by kernel_rfl) (by kernel_rfl) (by kernel_rfl) (det_fieldAddr_ Try.underlying117 rfl (by kernel_rfl) rfl rfl) rfl ?_
            refine vh_take 5 rfl (by kernel_rfl) (by kernel_rfl) (by kernel_rfl) (det_move rfl) rfl ?_
            refine vh_take 6 rfl (by kernel_rfl) (by kernel_rfl) (by kernel_rfl) (det_move rfl) rfl ?_
            refine vh_take 7 rfl (by kernel_rfl) (by kernel_rfl) (by kernel_rfl) (det_indexAddr (i := n - 1 - m2) Try.underlying41 (by kernel_rfl) rfl rfl (by omega) (by omega) (by first | (exact Bor.own (by repeat (first | exact List.Mem.head _ | apply List.Mem.tail))) | (repeat (first | assumption | apply Bor.cons)))) rfl ?_
            refine vh_take 8 rfl (by kernel_rfl) (by kernel_rfl) (by kernel_rfl) (det_load_u8 (by kernel_rfl) rfl (by first | (exact Bor.own (by repeat (first | exact List.Mem.head _ | apply List.Mem.tail))) | (repeat (first | assumption | apply Bor.cons))) (by omega)) rfl ?_
            rw [ref_get _ (by omega), bitn, lo_get v (by omega)]
            refine vh_two 4 9 (by kernel_rfl) ?_ ?_
            · skip
              refine st_det rfl .no (det_load_blk (by kernel_rfl) rfl (by repeat (first | exact .hd | apply Sel.tl)) rfl) rfl (by repeat (first | exact List.Sublist.refl _ | exact List.nil_sublist _ | apply List.Sublist.cons_cons | apply List.Sublist.cons)) ?_
              refine vh_one 9 (by kernel_rfl) ?_
              refine st_eff rfl .no (eff_build_lit slT41 [_] rfl rfl (by first | exact bv_one _ | exact strs_one _ | exact ints_one _ _ | (simp; done) | (simp [Value.oneCell']; done) | assumption) (by omega) (by omega)) rfl (by rintro _ _ ⟨A46, rfl, rfl⟩; exact (by repeat (first | exact List.Sublist.refl _ | exact List.nil_sublist _ | apply List.Sublist.cons_cons | apply List.Sublist.cons))) ?_
              rintro _ _ ⟨A46, rfl, rfl⟩
              refine vh_one 10 (by kernel_rfl) ?_
              refine st_eff rfl .no (eff_app slT41 rfl (by repeat (first | exact .hd | apply Sel.tl)) rfl (by first | (exact Bor.own (by repeat (first | exact List.Mem.head _ | apply List.Mem.tail))) | (repeat (first | assumption | apply Bor.cons))) (by first | exact bv_one _ | exact strs_one _ | exact ints_one _ _ | (simp; done) | (simp [Value.oneCell']; done) | assumption) (by omega) (by omega)) rfl (by rintro _ _ ⟨A47, c47, rfl, rfl⟩; exact (by repeat (first | exact List.Sublist.refl _ | exact List.nil_sublist _ | apply List.Sublist.cons_cons | apply List.Sublist.cons))) ?_
              rintro _ _ ⟨A47, c47, rfl, rfl⟩
              refine vh_take 11 rfl (by kernel_rfl) (by kernel_rfl) (by kernel_rfl) (det_nilCheck rfl) rfl ?_
              refine vh_take 12 rfl (by kernel_rfl) (by kernel_rfl) (by kernel_rfl) (det_fieldAddr_ Try.underlying117 rfl (by kernel_rfl) rfl rfl) rfl ?_
              refine vh_one 13 (by kernel_rfl) ?_
              refine st_eff0 rfl .no (eff_store (by kernel_rfl) rfl rfl rfl (by repeat (first | exact .hd | apply Sel.tl)) (by simp)) (by rintro _ _ rfl; exact (by repeat (first | exact List.Sublist.refl _ | exact List.nil_sublist _ | apply List.Sublist.cons_cons | apply List.Sublist.cons))) ?_
              rintro _ _ rfl
              refine vh_done [(0, _), (7, _), (9, _)] ⟨rfl, rfl, rfl, trivial⟩ (by kernel_rfl) ?_
              refine in_normal ?_
              refine then_next ?_
              refine vc_region ?_
              refine vl_det (det_move rfl) rfl ?_
              refine vl_det (det_sub rfl rfl (w_i64 (by omega) (by omega))) rfl ?_
              refine vl_det (det_assign rfl) rfl ?_
              refine vl_end [(0, _), (7, _), (9, _)] ⟨rfl, rfl, rfl, trivial⟩ ?_
              refine in_loop_ ⟨_, by omega, m2 + 1, A47, c47, by omega, rfl, ⟨(by first | rfl | exact int_to (by omega) | exact sl_to (by omega)), (by first | rfl | exact int_to (by omega) | exact sl_to (by omega)), (by first | rfl | exact int_to (by omega) | exact sl_to (by omega)), trivial⟩, .skip (wk_own rfl rfl (wf_eq (q := q ++ hi v n m2) (q' := q ++ hi v n (m2 + 1)) (b := v.testBit (n - 1 - m2)) rfl rfl (by rw [hi_succ, List.append_assoc])))⟩
            · skip
              refine st_eff rfl .no (eff_build_lit slT41 [_] rfl rfl (by first | exact bv_one _ | exact strs_one _ | exact ints_one _ _ | (simp; done) | (simp [Value.oneCell']; done) | assumption) (by omega) (by omega)) rfl (by rintro _ _ ⟨A46, rfl, rfl⟩; exact (by repeat (first | exact List.Sublist.refl _ | exact List.nil_sublist _ | apply List.Sublist.cons_cons | apply List.Sublist.cons))) ?_
              rintro _ _ ⟨A46, rfl, rfl⟩
              refine vh_one 4 (by kernel_rfl) ?_
              refine st_det rfl .no (det_load_blk (by kernel_rfl) rfl (by repeat (first | exact .hd | apply Sel.tl)) rfl) rfl (by repeat (first | exact List.Sublist.refl _ | exact List.nil_sublist _ | apply List.Sublist.cons_cons | apply List.Sublist.cons)) ?_
              refine vh_one 10 (by kernel_rfl) ?_
              refine st_eff rfl .no (eff_app slT41 rfl (by repeat (first | exact .hd | apply Sel.tl)) rfl (by first | (exact Bor.own (by repeat (first | exact List.Mem.head _ | apply List.Mem.tail))) | (repeat (first | assumption | apply Bor.cons))) (by first | exact bv_one _ | exact strs_one _ | exact ints_one _ _ | (simp; done) | (simp [Value.oneCell']; done) | assumption) (by omega) (by omega)) rfl (by rintro _ _ ⟨A47, c47, rfl, rfl⟩; exact (by repeat (first | exact List.Sublist.refl _ | exact List.nil_sublist _ | apply List.Sublist.cons_cons | apply List.Sublist.cons))) ?_
              rintro _ _ ⟨A47, c47, rfl, rfl⟩
              refine vh_take 11 rfl (by kernel_rfl) (by kernel_rfl) (by kernel_rfl) (det_nilCheck rfl) rfl ?_
              refine vh_take 12 rfl (by kernel_rfl) (by kernel_rfl) (by kernel_rfl) (det_fieldAddr_ Try.underlying117 rfl (by kernel_rfl) rfl rfl) rfl ?_
              refine vh_one 13 (by kernel_rfl) ?_
              refine st_eff0 rfl .no (eff_store (by kernel_rfl) rfl rfl rfl (by repeat (first | exact .hd | apply Sel.tl)) (by simp)) (by rintro _ _ rfl; exact (by repeat (first | exact List.Sublist.refl _ | exact List.nil_sublist _ | apply List.Sublist.cons_cons | apply List.Sublist.cons))) ?_
              rintro _ _ rfl
              refine vh_done [(0, _), (7, _), (9, _)] ⟨rfl, rfl, rfl, trivial⟩ (by kernel_rfl) ?_
              refine in_normal ?_
              refine then_next ?_
              refine vc_region ?_
              refine vl_det (det_move rfl) rfl ?_
              refine vl_det (det_sub rfl rfl (w_i64 (by omega) (by omega))) rfl ?_
              refine vl_det (det_assign rfl) rfl ?_
              refine vl_end [(0, _), (7, _), (9, _)] ⟨rfl, rfl, rfl, trivial⟩ ?_
              refine in_loop_ ⟨_, by omega, m2 + 1, A47, c47, by omega, rfl, ⟨(by first | rfl | exact int_to (by omega) | exact sl_to (by omega)), (by first | rfl | exact int_to (by omega) | exact sl_to (by omega)), (by first | rfl | exact int_to (by omega) | exact sl_to (by omega)), trivial⟩, .skip (wk_own rfl rfl (wf_eq (q := q ++ hi v n m2) (q' := q ++ hi v n (m2 + 1)) (b := v.testBit (n - 1 - m2)) rfl rfl (by rw [hi_succ, List.append_assoc])))⟩
          · skip
            refine vc_exit ?_
            refine then_exit ?_
            refine loop_exit ?_
            refine in_eq ?_
            refine then_next ?_
            refine vc_seq ?_
            refine vc_region ?_
            refine vl_det (det_assign rfl) rfl ?_
            refine vl_end [(6, _)] ⟨rfl, trivial⟩ ?_
            refine then_next ?_
            refine vc_ret ?_
            refine ret_wk (.skip (.refl _)) ?_
            refine ret1 rfl rfl ?_
            have hm' : m2 = n := by omega
            subst hm'
            exact ⟨rfl, A', c', rfl⟩
theorem rputbad_d (q : List Bool) (v : Nat) (hv : v < 18446744073709551616) (n : Int) (h1 : -9223372036854775808 ≤ n) (h2 : n < 9223372036854775808) (hp : ¬ Puts v n) :
    Does Try.prog B w0 76 [.pointer (some ⟨g, 0, none⟩), .int .u64 v, .int .i64 n] F
      (fun r L => r = .int .i64 13 ∧ L = F) := by
  refine fn_walk Try.func76 50 rfl rfl rfl [(0, .pointer (some ⟨g, 0, none⟩)), (1, .int .u64 v), (2, .int .i64 n)] ⟨⟨rfl, rfl⟩, ⟨rfl, rfl⟩, ⟨rfl, rfl⟩, trivial⟩ ?_
  refine vc_seq ?_
  refine vc_region ?_
  refine vl_det (det_assign rfl) rfl ?_
  refine vl_end [(0, _), (1, _), (2, _)] ⟨rfl, rfl, rfl, trivial⟩ ?_
  refine then_next ?_
  refine vc_seq ?_
  refine vc_seq ?_
  refine vc_region ?_
  refine vl_cut 6 15 [(0, _), (1, _), (2, _)] (¬ (0 ≤ n ∧ n ≤ 64)) ⟨rfl, rfl, rfl, trivial⟩ ?_ ?_
  · skip
    refine vl_det (det_move rfl) rfl ?_
    refine vl_det (det_lss rfl rfl) rfl ?_
    refine vl_det (det_move rfl) rfl ?_
    refine vl_guardn rfl rfl rfl (fun h12 => ?_) (fun h12 => ?_)
    · skip
      refine vl_det (det_move rfl) rfl ?_
      refine vl_guard_t rfl rfl ?_
      refine vl_det (det_gtr rfl rfl) rfl ?_
      refine vl_det (det_pick_f rfl rfl) rfl ?_
      exact vl_cut_end ⟨rfl, rfl, rfl, trivial⟩ (by first | rfl | exact bool_to_t (by first | omega | (exact ⟨fun h => by omega, fun h => by omega⟩)) | exact bool_to_f (by first | omega | (exact ⟨fun h => by omega, fun h => by omega⟩)) | exact bool_to (by first | omega | (exact ⟨fun h => by omega, fun h => by omega⟩)) | exact bool_to_b (by first | omega | (exact ⟨fun h => by omega, fun h => by omega⟩)))
    · skip
      refine vl_guard_f rfl rfl rfl rfl ?_
      refine vl_det (det_pick_t rfl rfl) rfl ?_
      exact vl_cut_end ⟨rfl, rfl, rfl, trivial⟩ (by first | rfl | exact bool_to_t (by first | omega | (exact ⟨fun h => by omega, fun h => by omega⟩)) | exact bool_to_f (by first | omega | (exact ⟨fun h => by omega, fun h => by omega⟩)) | exact bool_to (by first | omega | (exact ⟨fun h => by omega, fun h => by omega⟩)) | exact bool_to_b (by first | omega | (exact ⟨fun h => by omega, fun h => by omega⟩)))
  · skip
    refine vl_end [(0, _), (1, _), (2, _), (15, _)] ⟨rfl, rfl, rfl, rfl, trivial⟩ ?_
    refine then_next ?_
    refine vc_decideU rfl (fun h15 => ?_) (fun h15 => ?_)
    · skip
      refine vc_seq ?_
      refine vc_region ?_
      refine vl_det (det_assign rfl) rfl ?_
      refine vl_end [(6, _)] ⟨rfl, trivial⟩ ?_
      refine then_next ?_
      refine vc_ret ?_
      refine then_ret ?_
      refine ret1 rfl rfl ?_
      exact ⟨rfl, rfl⟩
    · skip
      refine vc_skip ?_
      refine then_next ?_
      refine vc_seq ?_
      refine vc_region ?_
      refine vl_det (det_assign rfl) rfl ?_
      refine vl_end [(0, _), (1, _), (2, _), (7, _)] ⟨rfl, rfl, rfl, rfl, trivial⟩ ?_
      refine then_next ?_
      refine vc_seq ?_
      refine vc_seq ?_
      refine vc_nil_row 5 1 none ?_
      refine vc_region ?_
      refine vl_det (det_assign rfl) rfl ?_
      refine vl_end [(0, _), (1, _), (2, _), (7, _), (8, _)] ⟨rfl, rfl, rfl, rfl, rfl, trivial⟩ ?_
      refine then_next ?_
      refine vc_block ?_
      refine vc_loopJ (fun zf zL zm => ∃ (m : Nat) (A7 : Option Addr) (c7 : Nat), ((m : Int) ≤ n) ∧ n.toNat - m = zm ∧ Sub zf [(0, .pointer (some ⟨g, 0, none⟩)), (1, .int .u64 (v / 2 ^ m : Nat)), (2, .int .i64 n), (7, .slice A7 m c7), (8, .int .i64 m)] ∧ Wk zL (.own 5 1 A7 m c7 (bv (ref (lo v m))) :: F)) _ ⟨0, none, 0, by omega, rfl, ⟨(by first | rfl | exact int_to (by omega) | exact sl_to (by omega)), (by first | rfl | exact int_to (by omega) | exact sl_to (by omega)), (by first | rfl | exact int_to (by omega) | exact sl_to (by omega)), (by first | rfl | exact int_to (by omega) | exact sl_to (by omega)), (by first | rfl | exact int_to (by omega) | exact sl_to (by omega)), trivial⟩, wk_own rfl rfl (.refl _)⟩ ?_
      rintro _ _ _ ⟨m, A7, c7, hm, rfl, hs, hp⟩
      refine vc_weaken _ hs (vc_wk hp ?_)
      clear hs hp
      refine vc_seq ?_
      refine vc_seq ?_
      refine vc_region ?_
      refine vl_det (det_move rfl) rfl ?_
      refine vl_det (det_move rfl) rfl ?_
      refine vl_det (det_lss rfl rfl) rfl ?_
      refine vl_end [(0, _), (1, _), (2, _), (7, _), (8, _), (18, _)] ⟨rfl, rfl, rfl, rfl, rfl, rfl, trivial⟩ ?_
      refine then_next ?_
      refine vc_decideU rfl (fun h18 => ?_) (fun h18 => ?_)
      · skip
        refine vc_skip ?_
        refine then_next ?_
        refine vc_seq ?_
        refine vc_block ?_
        refine vc_seq ?_
        refine vc_region ?_
        refine vl_det (det_move rfl) rfl ?_
        refine vl_det (det_move rfl) rfl ?_
        refine vl_det (det_rem rfl rfl (by omega) (tmod2 _)) rfl ?_
        refine vl_det (det_conv Try.underlying33 Try.underlying5 rfl (lo_bit v m)) rfl ?_
        refine vl_push slT41 rfl rfl rfl rfl rfl (fun _ => rfl) (by repeat (first | exact .hd | apply Sel.tl)) (by omega) (by omega) ?_
        intro _ A26 c26
        refine vl_det (det_assign rfl) rfl ?_
        refine vl_end [(0, _), (1, _), (2, _), (7, _), (8, _)] ⟨rfl, rfl, rfl, rfl, rfl, trivial⟩ ?_
        refine then_next ?_
        refine vc_region ?_
        refine vl_det (det_move rfl) rfl ?_
        refine vl_det (det_quo rfl rfl (by omega) (half_u64 m hv)) rfl ?_
        refine vl_det (det_assign rfl) rfl ?_
        refine vl_end [(0, _), (1, _), (2, _), (7, _), (8, _)] ⟨rfl, rfl, rfl, rfl, rfl, trivial⟩ ?_
        refine in_normal ?_
        refine then_next ?_
        refine vc_region ?_
        refine vl_det (det_move rfl) rfl ?_
        refine vl_det (det_add rfl rfl (w_i64 (by omega) (by omega))) rfl ?_
        refine vl_det (det_assign rfl) rfl ?_
        refine vl_end [(0, _), (1, _), (2, _), (7, _), (8, _)] ⟨rfl, rfl, rfl, rfl, rfl, trivial⟩ ?_
        refine in_loop_ ⟨_, by omega, m + 1, A26, c26, by omega, rfl, ⟨(by first | rfl | exact int_to (by omega) | exact sl_to (by omega)), (by first | rfl | exact int_to (by omega) | exact sl_to (by omega)), (by first | rfl | exact int_to (by omega) | exact sl_to (by omega)), (by first | rfl | exact int_to (by omega) | exact sl_to (by omega)), (by first | rfl | exact int_to (by omega) | exact sl_to (by omega)), trivial⟩, wk_own rfl (by rw [lo_succ, ref_app, bv_add, ref_bit]) (.refl _)⟩
      · skip
        refine vc_exit ?_
        refine then_exit ?_
        refine loop_exit ?_
        refine in_eq ?_
        refine then_next ?_
        refine vc_seq ?_
        refine vc_seq ?_
        refine vc_region ?_
        refine vl_det (det_move rfl) rfl ?_
        refine vl_det (det_neq rfl rfl) rfl ?_
        refine vl_end [(0, _), (2, _), (7, _), (30, _)] ⟨rfl, rfl, rfl, rfl, trivial⟩ ?_
        refine then_next ?_
        refine vc_decideU rfl (fun h30 => ?_) (fun h30 => ?_)
        · skip
          refine vc_seq ?_
          refine vc_region ?_
          refine vl_det (det_assign rfl) rfl ?_
          refine vl_end [(6, _)] ⟨rfl, trivial⟩ ?_
          refine then_next ?_
          refine vc_ret ?_
          refine then_ret ?_
          refine ret_wk (.skip (.refl _)) ?_
          refine ret1 rfl rfl ?_
          exact ⟨rfl, rfl⟩
        · skip
          exfalso; exact h30 (fun h => hp ⟨by omega, by omega, by rw [show n.toNat = m by omega]; exact puts_shr0 h⟩)
theorem runary_d (q : List Bool) (n : Nat) (hn : n ≤ 100000) (hq : q.length ≤ 7000000) :
    Does Try.prog B w0 77 [.pointer (some ⟨g, 0, none⟩), .int .i64 n] (Wf g bt A c q F)
      (fun r L => r = .int .i64 0 ∧ ∃ A' c', L = Wf g bt A' c' (q ++ un n) F) := by
  refine fn_walk Try.func77 35 rfl rfl rfl [(0, .pointer (some ⟨g, 0, none⟩)), (1, .int .i64 n)] ⟨⟨rfl, rfl⟩, ⟨rfl, rfl⟩, trivial⟩ ?_
  refine vc_seq ?_
  refine vc_region ?_
  refine vl_det (det_assign rfl) rfl ?_
  refine vl_end [(0, _), (1, _)] ⟨rfl, rfl, trivial⟩ ?_
  refine then_next ?_
  refine vc_seq ?_
  refine vc_seq ?_
  refine vc_region ?_
  refine vl_cut 6 11 [(0, _), (1, _)] (False) ⟨rfl, rfl, trivial⟩ ?_ ?_
  · skip
    refine vl_det (det_move rfl) rfl ?_
    refine vl_det (det_lss rfl rfl) rfl ?_
    refine vl_det (det_move rfl) rfl ?_
    refine vl_guardn rfl rfl rfl (fun h8 => ?_) (fun h8 => ?_)
    · skip
      refine vl_det (det_move rfl) rfl ?_
      refine vl_guard_t rfl rfl ?_
      refine vl_det (det_gtr rfl rfl) rfl ?_
      refine vl_det (det_pick_f rfl rfl) rfl ?_
      exact vl_cut_end ⟨rfl, rfl, trivial⟩ (by first | rfl | exact bool_to_t (by first | (exact ⟨fun h => absurd h (by omega), False.elim⟩) | omega) | exact bool_to_f (by first | (exact ⟨fun h => absurd h (by omega), False.elim⟩) | omega) | exact bool_to (by first | (exact ⟨fun h => absurd h (by omega), False.elim⟩) | omega) | exact bool_to_b (by first | (exact ⟨fun h => absurd h (by omega), False.elim⟩) | omega))
    · skip
      refine vl_guard_f rfl rfl rfl rfl ?_
      refine vl_det (det_pick_t rfl rfl) rfl ?_
      exact vl_cut_end ⟨rfl, rfl, trivial⟩ (by first | rfl | exact bool_to_t (by first | (exact ⟨fun h => absurd h (by omega), False.elim⟩) | omega) | exact bool_to_f (by first | (exact ⟨fun h => absurd h (by omega), False.elim⟩) | omega) | exact bool_to (by first | (exact ⟨fun h => absurd h (by omega), False.elim⟩) | omega) | exact bool_to_b (by first | (exact ⟨fun h => absurd h (by omega), False.elim⟩) | omega))
  · skip
    refine vl_end [(0, _), (1, _), (11, _)] ⟨rfl, rfl, rfl, trivial⟩ ?_
    refine then_next ?_
    refine vc_decideU rfl (fun h11 => ?_) (fun h11 => ?_)
    · skip
      exfalso; omega
    · skip
      refine vc_skip ?_
      refine then_next ?_
      refine vc_seq ?_
      refine vc_seq ?_
      refine vc_region ?_
      refine vl_det (det_assign rfl) rfl ?_
      refine vl_end [(0, _), (1, _), (5, _)] ⟨rfl, rfl, rfl, trivial⟩ ?_
      refine then_next ?_
      refine vc_block ?_
      refine vc_loopJ (fun zf zL zm => ∃ (m : Nat) (A' : Option Addr) (c' : Nat), (m ≤ n) ∧ n - m = zm ∧ Sub zf [(0, .pointer (some ⟨g, 0, none⟩)), (1, .int .i64 n), (5, .int .i64 m)] ∧ Wk zL (Wf g bt A' c' (q ++ List.replicate m false) F)) _ ⟨0, A, c, Nat.zero_le _, rfl, ⟨(by first | rfl | exact int_to (by omega) | exact sl_to (by omega)), (by first | rfl | exact int_to (by omega) | exact sl_to (by omega)), (by first | rfl | exact int_to (by omega) | exact sl_to (by omega)), trivial⟩, wk_blk (by rw [List.replicate_zero, List.append_nil]) (wk_own (by rw [List.replicate_zero, List.append_nil]) (by rw [List.replicate_zero, List.append_nil]) (.refl _))⟩ ?_
      rintro _ _ _ ⟨m, A', c', hm, rfl, hs, hp⟩
      refine vc_weaken _ hs (vc_wk hp ?_)
      clear hs hp
      have hll : (q ++ List.replicate m false).length = q.length + m := by rw [List.length_append, List.length_replicate]
      refine vc_seq ?_
      refine vc_seq ?_
      refine vc_region ?_
      refine vl_det (det_move rfl) rfl ?_
      refine vl_det (det_move rfl) rfl ?_
      refine vl_det (det_lss rfl rfl) rfl ?_
      refine vl_end [(0, _), (1, _), (5, _), (14, _)] ⟨rfl, rfl, rfl, rfl, trivial⟩ ?_
      refine then_next ?_
      refine vc_decideU rfl (fun h14 => ?_) (fun h14 => ?_)
      · skip
        refine vc_skip ?_
        refine then_next ?_
        refine vc_seq ?_
        refine vc_block ?_
        refine vc_region ?_
        refine vl_det (det_move rfl) rfl ?_
        refine vl_det (det_move rfl) rfl ?_
        refine vl_det (det_nilCheck rfl) rfl ?_
        refine vl_det (det_fieldAddr_ Try.underlying117 rfl (by kernel_rfl) rfl rfl) rfl ?_
        refine vl_det (det_load_blk (by kernel_rfl) rfl (by repeat (first | exact .hd | apply Sel.tl)) rfl) rfl ?_
        refine vl_push slT41 rfl rfl rfl rfl rfl (fun _ => rfl) (by repeat (first | exact .hd | apply Sel.tl)) (by omega) (by omega) ?_
        intro _ A23 c23
        refine vl_det (det_nilCheck rfl) rfl ?_
        refine vl_det (det_fieldAddr_ Try.underlying117 rfl (by kernel_rfl) rfl rfl) rfl ?_
        refine vl_eff0 (eff_store (by kernel_rfl) rfl rfl rfl (by repeat (first | exact .hd | apply Sel.tl)) (by simp)) ?_
        rintro _ _ rfl
        refine vl_end [(0, _), (1, _), (5, _)] ⟨rfl, rfl, rfl, trivial⟩ ?_
        refine in_normal ?_
        refine then_next ?_
        refine vc_region ?_
        refine vl_det (det_move rfl) rfl ?_
        refine vl_det (det_add rfl rfl (w_i64 (by omega) (by omega))) rfl ?_
        refine vl_det (det_assign rfl) rfl ?_
        refine vl_end [(0, _), (1, _), (5, _)] ⟨rfl, rfl, rfl, trivial⟩ ?_
        refine in_loop_ ⟨_, by omega, m + 1, A23, c23, by omega, rfl, ⟨(by first | rfl | exact int_to (by omega) | exact sl_to (by omega)), (by first | rfl | exact int_to (by omega) | exact sl_to (by omega)), (by first | rfl | exact int_to (by omega) | exact sl_to (by omega)), trivial⟩, wf_eq (q := q ++ List.replicate m false) (b := false) rfl rfl (by rw [rep_snoc, List.append_assoc])⟩
      · skip
        refine vc_exit ?_
        refine then_exit ?_
        refine loop_exit ?_
        refine in_eq ?_
        refine then_next ?_
        refine vc_seq ?_
        refine vc_region ?_
        refine vl_det (det_move rfl) rfl ?_
        refine vl_det (det_move rfl) rfl ?_
        refine vl_det (det_nilCheck rfl) rfl ?_
        refine vl_det (det_fieldAddr_ Try.underlying117 rfl (by kernel_rfl) rfl rfl) rfl ?_
        refine vl_det (det_load_blk (by kernel_rfl) rfl (by repeat (first | exact .hd | apply Sel.tl)) rfl) rfl ?_
        refine vl_push slT41 rfl rfl rfl rfl rfl (fun _ => rfl) (by repeat (first | exact .hd | apply Sel.tl)) (by omega) (by omega) ?_
        intro _ A32 c32
        refine vl_det (det_nilCheck rfl) rfl ?_
        refine vl_det (det_fieldAddr_ Try.underlying117 rfl (by kernel_rfl) rfl rfl) rfl ?_
        refine vl_eff0 (eff_store (by kernel_rfl) rfl rfl rfl (by repeat (first | exact .hd | apply Sel.tl)) (by simp)) ?_
        rintro _ _ rfl
        refine vl_end [] trivial ?_
        refine then_next ?_
        refine vc_seq ?_
        refine vc_region ?_
        refine vl_det (det_assign rfl) rfl ?_
        refine vl_end [(4, _)] ⟨rfl, trivial⟩ ?_
        refine then_next ?_
        refine vc_ret ?_
        have hm' : m = n := by omega
        subst hm'
        refine ret_wk (wf_eq (q := q ++ List.replicate m false) (b := true) (q' := q ++ un m) rfl rfl (by rw [un, List.append_assoc])) ?_
        refine ret1 rfl rfl ?_
        exact ⟨rfl, _, _, rfl⟩
theorem runarybad_d (n : Int) (h1 : -9223372036854775808 ≤ n) (h2 : n < 9223372036854775808) (hp : ¬ (0 ≤ n ∧ n ≤ 100000)) :
    Does Try.prog B w0 77 [.pointer (some ⟨g, 0, none⟩), .int .i64 n] F
      (fun r L => r = .int .i64 13 ∧ L = F) := by
  refine fn_walk Try.func77 35 rfl rfl rfl [(0, .pointer (some ⟨g, 0, none⟩)), (1, .int .i64 n)] ⟨⟨rfl, rfl⟩, ⟨rfl, rfl⟩, trivial⟩ ?_
  refine vc_seq ?_
  refine vc_region ?_
  refine vl_det (det_assign rfl) rfl ?_
  refine vl_end [(0, _), (1, _)] ⟨rfl, rfl, trivial⟩ ?_
  refine then_next ?_
  refine vc_seq ?_
  refine vc_seq ?_
  refine vc_region ?_
  refine vl_cut 6 11 [(0, _), (1, _)] (True) ⟨rfl, rfl, trivial⟩ ?_ ?_
  · skip
    refine vl_det (det_move rfl) rfl ?_
    refine vl_det (det_lss rfl rfl) rfl ?_
    refine vl_det (det_move rfl) rfl ?_
    refine vl_guardn rfl rfl rfl (fun h8 => ?_) (fun h8 => ?_)
    · skip
      refine vl_det (det_move rfl) rfl ?_
      refine vl_guard_t rfl rfl ?_
      refine vl_det (det_gtr rfl rfl) rfl ?_
      refine vl_det (det_pick_f rfl rfl) rfl ?_
      exact vl_cut_end ⟨rfl, rfl, trivial⟩ (by first | rfl | exact bool_to_t (by first | (exact trivial) | (exact ⟨fun _ => trivial, fun _ => by omega⟩) | omega) | exact bool_to_f (by first | (exact trivial) | (exact ⟨fun _ => trivial, fun _ => by omega⟩) | omega) | exact bool_to (by first | (exact trivial) | (exact ⟨fun _ => trivial, fun _ => by omega⟩) | omega) | exact bool_to_b (by first | (exact trivial) | (exact ⟨fun _ => trivial, fun _ => by omega⟩) | omega))
    · skip
      refine vl_guard_f rfl rfl rfl rfl ?_
      refine vl_det (det_pick_t rfl rfl) rfl ?_
      exact vl_cut_end ⟨rfl, rfl, trivial⟩ (by first | rfl | exact bool_to_t (by first | (exact trivial) | (exact ⟨fun _ => trivial, fun _ => by omega⟩) | omega) | exact bool_to_f (by first | (exact trivial) | (exact ⟨fun _ => trivial, fun _ => by omega⟩) | omega) | exact bool_to (by first | (exact trivial) | (exact ⟨fun _ => trivial, fun _ => by omega⟩) | omega) | exact bool_to_b (by first | (exact trivial) | (exact ⟨fun _ => trivial, fun _ => by omega⟩) | omega))
  · skip
    refine vl_end [(0, _), (1, _), (11, _)] ⟨rfl, rfl, rfl, trivial⟩ ?_
    refine then_next ?_
    refine vc_decideU rfl (fun h11 => ?_) (fun h11 => ?_)
    · skip
      refine vc_seq ?_
      refine vc_region ?_
      refine vl_det (det_assign rfl) rfl ?_
      refine vl_end [(4, _)] ⟨rfl, trivial⟩ ?_
      refine then_next ?_
      refine vc_ret ?_
      refine then_ret ?_
      refine ret1 rfl rfl ?_
      exact ⟨rfl, rfl⟩
    · skip
      exfalso; exact h11 trivial
theorem rbytes_d (q : List Bool) (hq : q.length ≤ 7000000) : Does Try.prog B w0 78 [.pointer (some ⟨g, 0, none⟩)] (Wf g bt A c q F) (fun r L => ∃ A' c', r = .slice A' (packed q).length c' ∧ L = .own 5 1 A' (packed q).length c' (bv (packed q)) :: Wf g bt A c q F) := by
  refine fn_walk Try.func78 48 rfl rfl rfl [(0, .pointer (some ⟨g, 0, none⟩))] ⟨⟨rfl, rfl⟩, trivial⟩ ?_
  refine vc_seq ?_
  refine vc_region ?_
  refine vl_det (det_assign rfl) rfl ?_
  refine vl_end [(0, _)] ⟨rfl, trivial⟩ ?_
  refine then_next ?_
  refine vc_seq ?_
  refine vc_region ?_
  refine vl_det (det_assign rfl) rfl ?_
  refine vl_end [(0, _), (3, _)] ⟨rfl, rfl, trivial⟩ ?_
  refine then_next ?_
  refine vc_seq ?_
  refine vc_seq ?_
  refine vc_nil_row 5 1 none ?_
  refine vc_region ?_
  refine vl_det (det_assign rfl) rfl ?_
  refine vl_end [(0, _), (3, _), (4, _)] ⟨rfl, rfl, rfl, trivial⟩ ?_
  refine then_next ?_
  refine vc_block ?_
  refine vc_loopJ (fun zf zL zm => ∃ (k : Nat) (A3 : Option Addr) (c3 : Nat), (8 * k ≤ q.length + 7) ∧ q.length + 7 - 8 * k = zm ∧ Sub zf [(0, .pointer (some ⟨g, 0, none⟩)), (3, .slice A3 k c3), (4, .int .i64 (8 * k : Nat))] ∧ Wk zL (.own 5 1 A3 k c3 (bv (octets q k)) :: Wf g bt A c q F)) _ ⟨0, none, 0, by omega, rfl, ⟨(by first | rfl | exact int_to (by omega) | exact sl_to (by omega)), (by first | rfl | exact int_to (by omega) | exact sl_to (by omega)), (by first | rfl | exact int_to (by omega) | exact sl_to (by omega)), trivial⟩, wk_own rfl rfl (.refl _)⟩ ?_
  rintro _ _ _ ⟨k, A3, c3, hk, rfl, hs, hp⟩
  refine vc_weaken _ hs (vc_wk hp ?_)
  clear hs hp
  refine vc_seq ?_
  refine vc_seq ?_
  refine vc_region ?_
  refine vl_det (det_move rfl) rfl ?_
  refine vl_det (det_move rfl) rfl ?_
  refine vl_det (det_nilCheck rfl) rfl ?_
  refine vl_det (det_fieldAddr_ Try.underlying117 rfl (by kernel_rfl) rfl rfl) rfl ?_
  refine vl_det (det_load_blk (by kernel_rfl) rfl (by repeat (first | exact .hd | apply Sel.tl)) rfl) rfl ?_
  refine vl_det (det_len_sl Try.underlying41 rfl) rfl ?_
  refine vl_det (det_lss rfl rfl) rfl ?_
  refine vl_end [(0, _), (3, _), (4, _), (13, _)] ⟨rfl, rfl, rfl, rfl, trivial⟩ ?_
  refine then_next ?_
  refine vc_decideU rfl (fun h13 => ?_) (fun h13 => ?_)
  · skip
    refine vc_skip ?_
    refine then_next ?_
    refine vc_seq ?_
    refine vc_block ?_
    refine vc_seq ?_
    refine vc_region ?_
    refine vl_det (det_assign rfl) rfl ?_
    refine vl_end [(0, _), (3, _), (4, _), (5, _)] ⟨rfl, rfl, rfl, rfl, trivial⟩ ?_
    refine then_next ?_
    refine vc_seq ?_
    refine vc_seq ?_
    refine vc_region ?_
    refine vl_det (det_move rfl) rfl ?_
    refine vl_det (det_assign rfl) rfl ?_
    refine vl_end [(0, _), (3, _), (4, _), (5, _), (6, _)] ⟨rfl, rfl, rfl, rfl, rfl, trivial⟩ ?_
    refine then_next ?_
    refine vc_block ?_
    refine vc_loopJ (fun zf zL zm => ∃ (j : Nat), (j ≤ 8) ∧ 8 - j = zm ∧ Sub zf [(0, .pointer (some ⟨g, 0, none⟩)), (3, .slice A3 k c3), (4, .int .i64 (8 * k : Nat)), (5, .int .i64 (part q (8 * k) j)), (6, .int .i64 (8 * k + j : Nat))] ∧ Wk zL (.own 5 1 A3 k c3 (bv (octets q k)) :: Wf g bt A c q F)) _ ⟨0, by omega, rfl, ⟨(by first | rfl | exact int_to (by omega) | exact sl_to (by omega)), (by first | rfl | exact int_to (by omega) | exact sl_to (by omega)), (by first | rfl | exact int_to (by omega) | exact sl_to (by omega)), (by first | rfl | exact int_to (by omega) | exact sl_to (by omega)), (by first | rfl | exact int_to (by omega) | exact sl_to (by omega)), trivial⟩, .refl _⟩ ?_
    rintro _ _ _ ⟨j, hj, rfl, hs, hp⟩
    refine vc_weaken _ hs (vc_wk hp ?_)
    clear hs hp
    have hpt := part_lt q (8 * k) j
    have hpu : 2 ^ j ≤ 2 ^ 8 := Nat.pow_le_pow_right (by omega) hj
    have hps : part q (8 * k) (j + 1) = 2 * part q (8 * k) j + bitn q (8 * k + j) := rfl
    have hble := bitn_le q (8 * k + j)
    have hrl := ref_length q
    refine vc_seq ?_
    refine vc_seq ?_
    refine vc_region ?_
    refine vl_det (det_move rfl) rfl ?_
    refine vl_det (det_move rfl) rfl ?_
    refine vl_det (det_add rfl rfl (w_i64 (by omega) (by omega))) rfl ?_
    refine vl_det (det_lss rfl rfl) rfl ?_
    refine vl_end [(0, _), (3, _), (4, _), (5, _), (6, _), (20, _)] ⟨rfl, rfl, rfl, rfl, rfl, rfl, trivial⟩ ?_
    refine then_next ?_
    refine vc_decideU rfl (fun h20 => ?_) (fun h20 => ?_)
    · skip
      refine vc_skip ?_
      refine then_next ?_
      refine vc_seq ?_
      refine vc_block ?_
      refine vc_seq ?_
      refine vc_region ?_
      refine vl_det (det_move rfl) rfl ?_
      refine vl_det (det_mul rfl rfl (w_i64 (by omega) (by omega))) rfl ?_
      refine vl_det (det_assign rfl) rfl ?_
      refine vl_end [(0, _), (3, _), (4, _), (5, _), (6, _)] ⟨rfl, rfl, rfl, rfl, rfl, trivial⟩ ?_
      refine then_next ?_
      refine vc_seq ?_
      refine vc_region ?_
      refine vl_det (det_move rfl) rfl ?_
      refine vl_det (det_move rfl) rfl ?_
      refine vl_det (det_nilCheck rfl) rfl ?_
      refine vl_det (det_fieldAddr_ Try.underlying117 rfl (by kernel_rfl) rfl rfl) rfl ?_
      refine vl_det (det_load_blk (by kernel_rfl) rfl (by repeat (first | exact .hd | apply Sel.tl)) rfl) rfl ?_
      refine vl_det (det_len_sl Try.underlying41 rfl) rfl ?_
      refine vl_det (det_lss rfl rfl) rfl ?_
      refine vl_end [(0, _), (3, _), (4, _), (5, _), (6, _), (31, _)] ⟨rfl, rfl, rfl, rfl, rfl, rfl, trivial⟩ ?_
      refine then_next ?_
      refine vc_decideU rfl (fun h31 => ?_) (fun h31 => ?_)
      · skip
        refine vc_region ?_
        refine vl_det (det_move rfl) rfl ?_
        refine vl_det (det_move rfl) rfl ?_
        refine vl_det (det_nilCheck rfl) rfl ?_
        refine vl_det (det_fieldAddr_ Try.underlying117 rfl (by kernel_rfl) rfl rfl) rfl ?_
        refine vl_det (det_load_blk (by kernel_rfl) rfl (by repeat (first | exact .hd | apply Sel.tl)) rfl) rfl ?_
        refine vl_det (det_move rfl) rfl ?_
        refine vl_det (det_indexAddr (i := 8 * k + j) Try.underlying41 (by kernel_rfl) rfl rfl rfl (by omega) (by first | (exact Bor.own (by repeat (first | exact List.Mem.head _ | apply List.Mem.tail))) | (repeat (first | assumption | apply Bor.cons)))) rfl ?_
        refine vl_det (det_load_u8 (by kernel_rfl) rfl (by first | (exact Bor.own (by repeat (first | exact List.Mem.head _ | apply List.Mem.tail))) | (repeat (first | assumption | apply Bor.cons))) (by omega)) rfl ?_
        rw [ref_get _ (by omega)]
        refine vl_det (det_conv Try.underlying5 Try.underlying3 rfl (w_i64 (by omega) (by omega))) rfl ?_
        refine vl_det (det_add rfl rfl (w_i64 (by omega) (by omega))) rfl ?_
        refine vl_det (det_assign rfl) rfl ?_
        refine vl_end [(0, _), (3, _), (4, _), (5, _), (6, _)] ⟨rfl, rfl, rfl, rfl, rfl, trivial⟩ ?_
        refine in_normal ?_
        refine then_next ?_
        refine vc_region ?_
        refine vl_det (det_move rfl) rfl ?_
        refine vl_det (det_add rfl rfl (w_i64 (by omega) (by omega))) rfl ?_
        refine vl_det (det_assign rfl) rfl ?_
        refine vl_end [(0, _), (3, _), (4, _), (5, _), (6, _)] ⟨rfl, rfl, rfl, rfl, rfl, trivial⟩ ?_
        refine in_loop_ ⟨_, by omega, j + 1, by omega, rfl, ⟨(by first | rfl | exact int_to (by omega) | exact sl_to (by omega)), (by first | rfl | exact int_to (by omega) | exact sl_to (by omega)), (by first | rfl | exact int_to (by omega) | exact sl_to (by omega)), (by first | rfl | exact int_to (by omega) | exact sl_to (by omega)), (by first | rfl | exact int_to (by omega) | exact sl_to (by omega)), trivial⟩, .refl _⟩
      · skip
        have h0 := bitn_out q (i := 8 * k + j) (by omega)
        refine vc_skip ?_
        refine in_normal ?_
        refine then_next ?_
        refine vc_region ?_
        refine vl_det (det_move rfl) rfl ?_
        refine vl_det (det_add rfl rfl (w_i64 (by omega) (by omega))) rfl ?_
        refine vl_det (det_assign rfl) rfl ?_
        refine vl_end [(0, _), (3, _), (4, _), (5, _), (6, _)] ⟨rfl, rfl, rfl, rfl, rfl, trivial⟩ ?_
        refine in_loop_ ⟨_, by omega, j + 1, by omega, rfl, ⟨(by first | rfl | exact int_to (by omega) | exact sl_to (by omega)), (by first | rfl | exact int_to (by omega) | exact sl_to (by omega)), (by first | rfl | exact int_to (by omega) | exact sl_to (by omega)), (by first | rfl | exact int_to (by omega) | exact sl_to (by omega)), (by first | rfl | exact int_to (by omega) | exact sl_to (by omega)), trivial⟩, .refl _⟩
    · skip
      refine vc_exit ?_
      refine then_exit ?_
      refine loop_exit ?_
      refine in_eq ?_
      refine then_next ?_
      refine vc_region ?_
      refine vl_det (det_move rfl) rfl ?_
      refine vl_det (det_move rfl) rfl ?_
      refine vl_det (det_conv Try.underlying3 Try.underlying5 rfl (octet_conv q k (show j = 8 by omega))) rfl ?_
      refine vl_push slT41 rfl rfl rfl rfl rfl (fun _ => rfl) (by repeat (first | exact .hd | apply Sel.tl)) (by omega) (by omega) ?_
      intro _ A46 c46
      refine vl_det (det_assign rfl) rfl ?_
      refine vl_end [(0, _), (3, _), (4, _)] ⟨rfl, rfl, rfl, trivial⟩ ?_
      refine in_normal ?_
      refine then_next ?_
      refine vc_region ?_
      refine vl_det (det_move rfl) rfl ?_
      refine vl_det (det_add rfl rfl (w_i64 (by omega) (by omega))) rfl ?_
      refine vl_det (det_assign rfl) rfl ?_
      refine vl_end [(0, _), (3, _), (4, _)] ⟨rfl, rfl, rfl, trivial⟩ ?_
      refine in_loop_ ⟨_, by omega, k + 1, A46, c46, by omega, rfl, ⟨(by first | rfl | exact int_to (by omega) | exact sl_to (by omega)), (by first | rfl | exact int_to (by omega) | exact sl_to (by omega)), (by first | rfl | exact int_to (by omega) | exact sl_to (by omega)), trivial⟩, wk_own rfl (by rw [octets_succ, bv_add]; rfl) (.refl _)⟩
  · skip
    refine vc_exit ?_
    refine then_exit ?_
    refine loop_exit ?_
    refine in_eq ?_
    refine then_next ?_
    refine vc_seq ?_
    refine vc_region ?_
    refine vl_det (det_move rfl) rfl ?_
    refine vl_det (det_assign rfl) rfl ?_
    refine vl_end [(2, _)] ⟨rfl, trivial⟩ ?_
    refine then_next ?_
    refine vc_ret ?_
    refine ret_wk (L' := .own 5 1 A3 (packed q).length c3 (bv (packed q)) :: Wf g bt A c q F) (wk_own (by rw [packed_length]; omega) (by rw [packed, show (q.length + 7) / 8 = k by omega]) (.refl _)) ?_
    refine ret1 rfl rfl ?_
    have e : k = (packed q).length := by rw [packed_length]; omega
    exact ⟨A3, c3, by rw [← e], rfl⟩
end Go.Proofs.Ytpamjobiohbibaa
namespace Go.Proofs.Ytpamjobiohbibaa
open Go.RowKit
set_option linter.unusedVariables false
set_option maxRecDepth 20000
variable {B : Nat} {w0 : World} {F : List Ch} {A A1 A2 : Option Addr} {n c c1 c2 g : Nat}
/-! width -/
def blN (x : Nat) : Nat := if x = 0 then 0 else Nat.log2 x + 1
def lenTab : List UInt8 := (List.range 256).map fun i => UInt8.ofNat (blN i)
theorem tab_get (y : Nat) (h : y < 256) : (lenTab.getD y 0).toNat = blN y := by
  have : ∀ i : Fin 256, (lenTab.getD i.val 0).toNat = blN i.val := by decide +kernel
  exact this ⟨y, h⟩
theorem blN_256 {x : Nat} (h : 256 ≤ x) : blN x = 8 + blN (x / 256) := by
  unfold blN
  rw [if_neg (by omega), if_neg (by omega)]
  have h0 : x / 256 ≠ 0 := by omega
  have e : Nat.log2 x = 8 + Nat.log2 (x / 256) := by
    apply Nat.le_antisymm
    · have h1 := Nat.lt_log2_self (n := x / 256)
      have h2 : x < 2 ^ (8 + Nat.log2 (x / 256) + 1) := by
        rw [show 8 + Nat.log2 (x / 256) + 1 = 8 + (Nat.log2 (x / 256) + 1) by omega, Nat.pow_add]
        omega
      have := (Nat.log2_lt (by omega)).2 h2
      omega
    · refine (Nat.le_log2 (by omega)).2 ?_
      have := Nat.log2_self_le h0
      rw [Nat.pow_add]
      omega
  omega
theorem det_at_const {C : Cx} {fr : Fr} {L : List Ch} {x y : Operand} {t ty : TypeId} {k : IntKind} {m : Int} {s s' : List UInt8} {i : Nat} (ht : C.P.underlying t = some .string) (h : ev fr x = some (.string ⟨s.toArray⟩)) (hs : s = s') (h2 : ev fr y = some (.int k m)) (hm : m = (i : Int)) (hi : i < s'.length) : Det C fr L (.index t x y) ty (.int .u8 ((s'.getD i 0).toNat : Int)) := by
  subst hs; exact det_at_str ht h h2 hm hi
theorem shr8 (y : Nat) : (y : Int).fdiv (2 ^ min (8 : Int).toNat IntKind.u64.bits) = ((y / 256 : Nat) : Int) := by
  have e : min (8 : Int).toNat IntKind.u64.bits = 8 := by decide
  rw [e, Int.fdiv_eq_ediv_of_nonneg _ (by decide)]
  rfl
theorem len64_d (x : Nat) (hx : x < 65536) : Does Try.prog B w0 109 [.int .u64 x] F (fun r L => r = .int .i64 (blN x) ∧ L = F) := by
  refine fn_walk Try.func109 25 rfl rfl rfl [(0, .int .u64 x)] ⟨⟨rfl, rfl⟩, trivial⟩ ?_
  refine vc_seq ?_
  refine vc_region ?_
  refine vl_det (det_assign rfl) rfl ?_
  refine vl_end [(0, _), (2, _)] ⟨rfl, rfl, trivial⟩ ?_
  refine then_next ?_
  refine vc_seq ?_
  refine vc_seq ?_
  refine vc_region ?_
  refine vl_det (det_move rfl) rfl ?_
  refine vl_det (det_geq rfl rfl) rfl ?_
  refine vl_end [(0, _), (2, _), (4, _)] ⟨rfl, rfl, rfl, trivial⟩ ?_
  refine then_next ?_
  refine vc_decideU rfl (fun h4 => ?_) (fun h4 => ?_)
  · skip
    exfalso; omega
  · skip
    refine vc_skip ?_
    refine then_next ?_
    refine vc_seq ?_
    refine vc_seq ?_
    refine vc_region ?_
    refine vl_det (det_move rfl) rfl ?_
    refine vl_det (det_geq rfl rfl) rfl ?_
    refine vl_end [(0, _), (2, _), (8, _)] ⟨rfl, rfl, rfl, trivial⟩ ?_
    refine then_next ?_
    refine vc_decideU rfl (fun h8 => ?_) (fun h8 => ?_)
    · skip
      exfalso; omega
    · skip
      refine vc_skip ?_
      refine then_next ?_
      refine vc_seqJ (fun zf zL => ∃ (y m : Nat), (y < 256 ∧ m ≤ 8 ∧ blN x = m + blN y) ∧ Sub zf [(0, .int .u64 y), (2, .int .i64 m)] ∧ Wk zL (F)) ?_ ?_
      · skip
        refine vc_seq ?_
        refine vc_region ?_
        refine vl_det (det_move rfl) rfl ?_
        refine vl_det (det_geq rfl rfl) rfl ?_
        refine vl_end [(0, _), (2, _), (14, _)] ⟨rfl, rfl, rfl, trivial⟩ ?_
        refine then_next ?_
        refine vc_decideU rfl (fun h14 => ?_) (fun h14 => ?_)
        · skip
          refine vc_seq ?_
          refine vc_region ?_
          refine vl_det (det_move rfl) rfl ?_
          refine vl_det (det_shr rfl rfl (by omega) (shr8 x)) rfl ?_
          refine vl_det (det_assign rfl) rfl ?_
          refine vl_end [(0, _), (2, _)] ⟨rfl, rfl, trivial⟩ ?_
          refine then_next ?_
          refine vc_region ?_
          refine vl_det (det_move rfl) rfl ?_
          refine vl_det (det_add rfl rfl (w_i64 (by omega) (by omega))) rfl ?_
          refine vl_det (det_assign rfl) rfl ?_
          refine vl_end [(0, _), (2, _)] ⟨rfl, rfl, trivial⟩ ?_
          exact in_join ⟨x / 256, 8, ⟨by omega, by omega, blN_256 (by omega)⟩, ⟨(by first | rfl | exact int_to (by omega) | exact sl_to (by omega)), (by first | rfl | exact int_to (by omega) | exact sl_to (by omega)), trivial⟩, .refl _⟩
        · skip
          refine vc_skip ?_
          exact in_join ⟨x, 0, ⟨by omega, by omega, by omega⟩, ⟨(by first | rfl | exact int_to (by omega) | exact sl_to (by omega)), (by first | rfl | exact int_to (by omega) | exact sl_to (by omega)), trivial⟩, .refl _⟩
      · rintro _ _ ⟨y, m, ⟨hy, hm, hbl⟩, hs, hp⟩
        refine vc_weaken _ hs (vc_wk hp ?_)
        clear hs hp
        refine vc_seq ?_
        refine vc_region ?_
        refine vl_det (det_move rfl) rfl ?_
        refine vl_det (det_move rfl) rfl ?_
        refine vl_det (det_conv Try.underlying33 Try.underlying5 rfl (w_u8 (by omega) (by omega))) rfl ?_
        refine vl_det (det_at_const (s' := lenTab) Try.underlying9 rfl (by decide +kernel) rfl rfl (by simp [lenTab]; omega)) rfl ?_
        rw [tab_get y hy]
        have hb9 : blN y ≤ 8 := by
          have : ∀ i : Fin 256, blN i.val ≤ 8 := by decide +kernel
          exact this ⟨y, hy⟩
        refine vl_det (det_conv Try.underlying5 Try.underlying3 rfl (w_i64 (by omega) (by omega))) rfl ?_
        refine vl_det (det_add rfl rfl (w_i64 (by omega) (by omega))) rfl ?_
        refine vl_det (det_assign rfl) rfl ?_
        refine vl_end [(2, _)] ⟨rfl, trivial⟩ ?_
        refine then_next ?_
        refine vc_ret ?_
        refine ret1 rfl rfl ?_
        exact ⟨congrArg (fun (z : Int) => Value.int .i64 z) (by omega), rfl⟩
theorem len_d (x : Nat) (hx : x < 65536) : Does Try.prog B w0 60 [.int .u64 x] F (fun r L => r = .int .i64 (blN x) ∧ L = F) := by
  refine fn_walk Try.func60 8 rfl rfl rfl [(0, .int .u64 x)] ⟨⟨rfl, rfl⟩, trivial⟩ ?_
  refine vc_seq ?_
  refine vc_region ?_
  refine vl_det (det_assign rfl) rfl ?_
  refine vl_end [(0, _)] ⟨rfl, trivial⟩ ?_
  refine then_next ?_
  refine vc_seq ?_
  refine vc_cond_f rfl ?_
  refine vc_skip ?_
  refine then_next ?_
  refine vc_seq ?_
  refine vc_region ?_
  refine vl_det (det_move rfl) rfl ?_
  refine vl_call co109 rfl (len64_d x hx) rfl ?_
  rintro _ _ ⟨rfl, hLL⟩
  obtain rfl := hLL.symm
  refine vl_det (det_assign rfl) rfl ?_
  refine vl_end [(2, _)] ⟨rfl, trivial⟩ ?_
  refine then_next ?_
  refine vc_ret ?_
  refine ret1 rfl rfl ?_
  exact ⟨rfl, rfl⟩
theorem width_d (b m : Nat) (hb : b ≤ 20000) (hm : 1 ≤ m) (hmb : m ≤ b) : Does Try.prog B w0 66 [.int .i64 b, .int .i64 m] F (fun r L => r = .int .i64 (wid b m) ∧ L = F) := by
  have hq : b / m ≤ 20000 := Nat.le_trans (Nat.div_le_self _ _) hb
  have hq1 : 1 ≤ b / m := (Nat.le_div_iff_mul_le (by omega)).2 (by omega)
  have hw : (wid b m : Int) = (blN (b / m) : Int) - 1 := by unfold wid blN; rw [if_neg (by omega)]; omega
  have hqq : IntKind.i64.wrap ((b : Int).tdiv (m : Int)) = ((b / m : Nat) : Int) := by
    have e : (b : Int).tdiv (m : Int) = ((b / m : Nat) : Int) := (Int.ofNat_tdiv b m).symm
    rw [e]
    generalize b / m = x at hq
    exact wrap_i64 _ (by omega) (by omega)
  generalize hz : b / m = q at *
  refine fn_walk Try.func66 11 rfl rfl rfl [(0, .int .i64 b), (1, .int .i64 m)] ⟨⟨rfl, rfl⟩, ⟨rfl, rfl⟩, trivial⟩ ?_
  refine vc_seq ?_
  refine vc_region ?_
  refine vl_det (det_assign rfl) rfl ?_
  refine vl_end [(0, _), (1, _)] ⟨rfl, rfl, trivial⟩ ?_
  refine then_next ?_
  refine vc_seq ?_
  refine vc_region ?_
  refine vl_det (det_move rfl) rfl ?_
  refine vl_det (det_move rfl) rfl ?_
  refine vl_det (det_quo rfl rfl (by omega) hqq) rfl ?_
  refine vl_det (det_conv Try.underlying3 Try.underlying94 rfl (w_u64 (by omega) (by omega))) rfl ?_
  refine vl_call co60 rfl (len_d q (by omega)) rfl ?_
  rintro _ _ ⟨rfl, hLL⟩
  obtain rfl := hLL.symm
  have hbl : blN q ≤ 17 := by
    unfold blN
    split
    · omega
    · have := (Nat.log2_lt (n := q) (k := 16) (by omega)).2 (by omega)
      omega
  refine vl_det (det_sub rfl rfl (w_i64 (by omega) (by omega))) rfl ?_
  refine vl_det (det_assign rfl) rfl ?_
  refine vl_end [(4, _)] ⟨rfl, trivial⟩ ?_
  refine then_next ?_
  refine vc_ret ?_
  refine ret1 rfl rfl ?_
  exact ⟨by rw [hw], rfl⟩
theorem rwidth_d (q : Nat) (hq1 : 1 ≤ q) (hq : q ≤ 20000) : Does Try.prog B w0 75 [.int .i64 q] F (fun r L => r = .tuple #[.int .i64 (Nat.log2 q), .int .i64 (2 ^ Nat.log2 q : Nat)] ∧ L = F) := by
  refine fn_walk Try.func75 16 rfl rfl rfl [(0, .int .i64 q)] ⟨⟨rfl, rfl⟩, trivial⟩ ?_
  refine vc_seq ?_
  refine vc_region ?_
  refine vl_det (det_assign rfl) rfl ?_
  refine vl_det (det_assign rfl) rfl ?_
  refine vl_end [(0, _)] ⟨rfl, trivial⟩ ?_
  refine then_next ?_
  refine vc_seq ?_
  refine vc_region ?_
  refine vl_det (det_assign rfl) rfl ?_
  refine vl_det (det_assign rfl) rfl ?_
  refine vl_end [(0, _), (4, _), (5, _)] ⟨rfl, rfl, rfl, trivial⟩ ?_
  refine then_next ?_
  refine vc_seq ?_
  refine vc_block ?_
  refine vc_loopJ (fun zf zL zm => ∃ (w p : Nat), (p = 2 ^ w ∧ p ≤ q ∧ w ≤ p) ∧ q - p = zm ∧ Sub zf [(0, .int .i64 q), (4, .int .i64 w), (5, .int .i64 p)] ∧ Wk zL (F)) _ ⟨0, 1, ⟨rfl, hq1, Nat.zero_le _⟩, rfl, ⟨(by first | rfl | exact int_to (by omega) | exact sl_to (by omega)), (by first | rfl | exact int_to (by omega) | exact sl_to (by omega)), (by first | rfl | exact int_to (by omega) | exact sl_to (by omega)), trivial⟩, .refl _⟩ ?_
  rintro _ _ _ ⟨w, p, ⟨hp, hpq, hwp⟩, rfl, hs, hp⟩
  refine vc_weaken _ hs (vc_wk hp ?_)
  clear hs hp
  have hpp : 1 ≤ p := by rw [hp]; exact Nat.one_le_two_pow
  refine vc_seq ?_
  refine vc_seq ?_
  refine vc_region ?_
  refine vl_det (det_move rfl) rfl ?_
  refine vl_det (det_mul rfl rfl (w_i64 (by omega) (by omega))) rfl ?_
  refine vl_det (det_move rfl) rfl ?_
  refine vl_det (det_leq rfl rfl) rfl ?_
  refine vl_end [(0, _), (4, _), (5, _), (9, _)] ⟨rfl, rfl, rfl, rfl, trivial⟩ ?_
  refine then_next ?_
  refine vc_decideU rfl (fun h9 => ?_) (fun h9 => ?_)
  · skip
    refine vc_skip ?_
    refine then_next ?_
    refine vc_block ?_
    refine vc_seq ?_
    refine vc_region ?_
    refine vl_det (det_move rfl) rfl ?_
    refine vl_det (det_mul rfl rfl (w_i64 (by omega) (by omega))) rfl ?_
    refine vl_det (det_assign rfl) rfl ?_
    refine vl_end [(0, _), (4, _), (5, _)] ⟨rfl, rfl, rfl, trivial⟩ ?_
    refine then_next ?_
    refine vc_region ?_
    refine vl_det (det_move rfl) rfl ?_
    refine vl_det (det_add rfl rfl (w_i64 (by omega) (by omega))) rfl ?_
    refine vl_det (det_assign rfl) rfl ?_
    refine vl_end [(0, _), (4, _), (5, _)] ⟨rfl, rfl, rfl, trivial⟩ ?_
    refine in_normal ?_
    refine in_loop_ ⟨_, by omega, w + 1, 2 * p, ⟨by rw [hp, Nat.pow_succ]; omega, by omega, by omega⟩, rfl, ⟨(by first | rfl | exact int_to (by omega) | exact sl_to (by omega)), (by first | rfl | exact int_to (by omega) | exact sl_to (by omega)), (by first | rfl | exact int_to (by omega) | exact sl_to (by omega)), trivial⟩, .refl _⟩
  · skip
    refine vc_exit ?_
    refine then_exit ?_
    refine loop_exit ?_
    refine in_eq ?_
    refine then_next ?_
    refine vc_seq ?_
    refine vc_region ?_
    refine vl_det (det_move rfl) rfl ?_
    refine vl_det (det_move rfl) rfl ?_
    refine vl_det (det_assign rfl) rfl ?_
    refine vl_det (det_assign rfl) rfl ?_
    refine vl_end [(2, _), (3, _)] ⟨rfl, rfl, trivial⟩ ?_
    refine then_next ?_
    refine vc_ret ?_
    refine ret2 rfl rfl rfl ?_
    have hl : Nat.log2 q = w := by
      apply Nat.le_antisymm
      · have := (Nat.log2_lt (n := q) (k := w + 1) (by omega)).2 (by rw [Nat.pow_succ, ← hp]; omega)
        omega
      · exact (Nat.le_log2 (by omega)).2 (by rw [← hp]; exact hpq)
    rw [hl, ← hp]
    exact ⟨rfl, rfl⟩
theorem risC_was {bound : Int} {ids : List Int} {k : Nat} {was : Int} (hw : was = if k = 0 then -1 else ids.getD (k - 1) 0) (hp : ∀ i, i < k → risC bound ids i) : risC bound ids k ↔ was < ids.getD k 0 ∧ ids.getD k 0 < bound := by
  by_cases h0 : k = 0
  · subst h0
    rw [if_pos rfl] at hw
    subst hw
    unfold risC
    exact ⟨fun h => ⟨by omega, h.2.1⟩, fun h => ⟨by omega, h.2, fun h => absurd h (by omega)⟩⟩
  · rw [if_neg h0] at hw
    subst hw
    have := (hp (k - 1) (by omega)).1
    unfold risC
    exact ⟨fun h => ⟨h.2.2 (by omega), h.2.1⟩, fun h => ⟨by omega, h.2, fun _ => h.1⟩⟩
theorem rises_d (bound : Int) (ids : List Int) (hb : Bor B w0 F 1 (.slice A ids.length c) ids.length (ints .i64 ids)) (hl : ids.length ≤ 9000000000000000000) :
    Does Try.prog B w0 65 [.int .i64 bound, .slice A ids.length c] F (fun r L => r = .bool (decide (Ris bound ids)) ∧ L = F) := by
  refine fn_walk Try.func65 24 rfl rfl rfl [(0, .int .i64 bound), (1, .slice A ids.length c)] ⟨⟨rfl, rfl⟩, ⟨rfl, rfl⟩, trivial⟩ ?_
  refine vc_seq ?_
  refine vc_region ?_
  refine vl_det (det_assign rfl) rfl ?_
  refine vl_end [(0, _), (1, _)] ⟨rfl, rfl, trivial⟩ ?_
  refine then_next ?_
  refine vc_seq ?_
  refine vc_region ?_
  refine vl_det (det_assign rfl) rfl ?_
  refine vl_end [(0, _), (1, _), (5, _)] ⟨rfl, rfl, rfl, trivial⟩ ?_
  refine then_next ?_
  refine vc_seq ?_
  refine vc_seq ?_
  refine vc_region ?_
  refine vl_det (det_move rfl) rfl ?_
  refine vl_det (det_len_sl Try.underlying37 rfl) rfl ?_
  refine vl_det (det_move rfl) rfl ?_
  refine vl_end [(0, _), (5, _), (8, _), (9, _), (10, _)] ⟨rfl, rfl, rfl, rfl, rfl, trivial⟩ ?_
  refine then_next ?_
  refine vc_block ?_
  refine vc_loopJ (fun zf zL zm => ∃ (k : Nat) (was : Int), (k ≤ ids.length ∧ was = (if k = 0 then -1 else ids.getD (k - 1) 0) ∧ ∀ i, i < k → risC bound ids i) ∧ ids.length - k = zm ∧ Sub zf [(0, .int .i64 bound), (5, .int .i64 was), (8, .slice A ids.length c), (9, .int .i64 ids.length), (10, .int .i64 k)] ∧ Wk zL (F)) _ ⟨0, -1, ⟨Nat.zero_le _, rfl, fun i h => absurd h (by omega)⟩, rfl, ⟨(by first | rfl | exact int_to (by omega) | exact sl_to (by omega)), (by first | rfl | exact int_to (by omega) | exact sl_to (by omega)), (by first | rfl | exact int_to (by omega) | exact sl_to (by omega)), (by first | rfl | exact int_to (by omega) | exact sl_to (by omega)), (by first | rfl | exact int_to (by omega) | exact sl_to (by omega)), trivial⟩, .refl _⟩ ?_
  rintro _ _ _ ⟨k, was, ⟨hk, hwas, hall⟩, rfl, hs, hp⟩
  refine vc_weaken _ hs (vc_wk hp ?_)
  clear hs hp
  have hcw := risC_was hwas hall
  refine vc_seq ?_
  refine vc_region ?_
  refine vl_det (det_lss rfl rfl) rfl ?_
  refine vl_end [(0, _), (5, _), (8, _), (9, _), (10, _), (11, _)] ⟨rfl, rfl, rfl, rfl, rfl, rfl, trivial⟩ ?_
  refine then_next ?_
  refine vc_seq ?_
  refine vc_decideU rfl (fun h11 => ?_) (fun h11 => ?_)
  · skip
    refine vc_skip ?_
    refine then_next ?_
    refine vc_seq ?_
    refine vc_block ?_
    refine vc_seq ?_
    refine vc_region ?_
    refine vl_det (det_indexAddr (size := 1) Try.underlying37 (by kernel_rfl) rfl rfl rfl (by omega) (by first | (exact Bor.own (by repeat (first | exact List.Mem.head _ | apply List.Mem.tail))) | (repeat (first | assumption | apply Bor.cons)))) rfl ?_
    refine vl_det (det_load_int (by kernel_rfl) rfl (by first | (exact Bor.own (by repeat (first | exact List.Mem.head _ | apply List.Mem.tail))) | (repeat (first | assumption | apply Bor.cons))) (by omega)) rfl ?_
    refine vl_det (det_assign rfl) rfl ?_
    refine vl_end [(0, _), (5, _), (7, _), (8, _), (9, _), (10, _)] ⟨rfl, rfl, rfl, rfl, rfl, rfl, trivial⟩ ?_
    refine then_next ?_
    refine vc_seq ?_
    refine vc_seq ?_
    refine vc_region ?_
    refine vl_cut 8 21 [(0, _), (7, _), (8, _), (9, _), (10, _)] (ids.getD k 0 ≤ was ∨ bound ≤ ids.getD k 0) ⟨rfl, rfl, rfl, rfl, rfl, trivial⟩ ?_ ?_
    · skip
      refine vl_det (det_move rfl) rfl ?_
      refine vl_det (det_move rfl) rfl ?_
      refine vl_det (det_leq rfl rfl) rfl ?_
      refine vl_det (det_move rfl) rfl ?_
      refine vl_guardn rfl rfl rfl (fun h17 => ?_) (fun h17 => ?_)
      · skip
        refine vl_det (det_move rfl) rfl ?_
        refine vl_guard_t rfl rfl ?_
        refine vl_det (det_move rfl) rfl ?_
        refine vl_guard_t rfl rfl ?_
        refine vl_det (det_geq rfl rfl) rfl ?_
        refine vl_det (det_pick_f rfl rfl) rfl ?_
        exact vl_cut_end ⟨rfl, rfl, rfl, rfl, rfl, trivial⟩ (by first | rfl | exact bool_to_t (by first | omega | simp_all) | exact bool_to_f (by first | omega | simp_all) | exact bool_to (by first | omega | simp_all) | exact bool_to_b (by first | omega | simp_all))
      · skip
        refine vl_guard_f rfl rfl rfl rfl ?_
        refine vl_guard_f rfl rfl rfl rfl ?_
        refine vl_det (det_pick_t rfl rfl) rfl ?_
        exact vl_cut_end ⟨rfl, rfl, rfl, rfl, rfl, trivial⟩ (by first | rfl | exact bool_to_t (by first | omega | simp_all) | exact bool_to_f (by first | omega | simp_all) | exact bool_to (by first | omega | simp_all) | exact bool_to_b (by first | omega | simp_all))
    · skip
      refine vl_end [(0, _), (7, _), (8, _), (9, _), (10, _), (21, _)] ⟨rfl, rfl, rfl, rfl, rfl, rfl, trivial⟩ ?_
      refine then_next ?_
      refine vc_decideU rfl (fun h21 => ?_) (fun h21 => ?_)
      · skip
        refine vc_seq ?_
        refine vc_region ?_
        refine vl_det (det_assign rfl) rfl ?_
        refine vl_end [(4, _)] ⟨rfl, trivial⟩ ?_
        refine then_next ?_
        refine vc_ret ?_
        refine then_ret ?_
        refine in_ret ?_
        refine then_ret ?_
        refine loop_ret ?_
        refine in_ret ?_
        refine then_ret ?_
        refine ret1 rfl rfl ?_
        exact ⟨by rw [decide_eq_false (fun h => by have := hcw.1 (h k (by omega)); omega)], rfl⟩
      · skip
        refine vc_skip ?_
        refine then_next ?_
        refine vc_region ?_
        refine vl_det (det_move rfl) rfl ?_
        refine vl_det (det_assign rfl) rfl ?_
        refine vl_end [(0, _), (5, _), (8, _), (9, _), (10, _)] ⟨rfl, rfl, rfl, rfl, rfl, trivial⟩ ?_
        refine in_normal ?_
        refine then_next ?_
        refine vc_region ?_
        refine vl_det (det_add rfl rfl (w_i64 (by omega) (by omega))) rfl ?_
        refine vl_det (det_move rfl) rfl ?_
        refine vl_end [(0, _), (5, _), (8, _), (9, _), (10, _)] ⟨rfl, rfl, rfl, rfl, rfl, trivial⟩ ?_
        refine in_loop_ ⟨_, by omega, k + 1, ids.getD k 0, ⟨by omega, by rw [if_neg (by omega), Nat.add_sub_cancel], fun i h => by rcases Nat.lt_succ_iff_lt_or_eq.1 h with h | h; exact hall i h; subst h; exact hcw.2 (by omega)⟩, rfl, ⟨(by first | rfl | exact int_to (by omega) | exact sl_to (by omega)), (by first | rfl | exact int_to (by omega) | exact sl_to (by omega)), (by first | rfl | exact int_to (by omega) | exact sl_to (by omega)), (by first | rfl | exact int_to (by omega) | exact sl_to (by omega)), (by first | rfl | exact int_to (by omega) | exact sl_to (by omega)), trivial⟩, .refl _⟩
  · skip
    refine vc_exit ?_
    refine then_exit ?_
    refine loop_exit ?_
    refine in_eq ?_
    refine then_next ?_
    refine vc_seq ?_
    refine vc_region ?_
    refine vl_det (det_assign rfl) rfl ?_
    refine vl_end [(4, _)] ⟨rfl, trivial⟩ ?_
    refine then_next ?_
    refine vc_ret ?_
    refine ret1 rfl rfl ?_
    exact ⟨by rw [decide_eq_true (show Ris bound ids from fun i hi => hall i (by omega))], rfl⟩
theorem may_d (bound : Int) (ids : List Int) (hb : Bor B w0 F 1 (.slice A ids.length c) ids.length (ints .i64 ids)) (hl : ids.length ≤ 9000000000000000000) :
    Does Try.prog B w0 44 [.int .i64 bound, .slice A ids.length c] F (fun r L => r = .bool (decide (Ris bound ids)) ∧ L = F) := by
  refine fn_walk Try.func44 41 rfl rfl rfl [(0, .int .i64 bound), (1, .slice A ids.length c)] ⟨⟨rfl, rfl⟩, ⟨rfl, rfl⟩, trivial⟩ ?_
  refine vc_seq ?_
  refine vc_region ?_
  refine vl_det (det_assign rfl) rfl ?_
  refine vl_end [(0, _), (1, _)] ⟨rfl, rfl, trivial⟩ ?_
  refine then_next ?_
  refine vc_seq ?_
  refine vc_seq ?_
  refine vc_region ?_
  refine vl_det (det_assign rfl) rfl ?_
  refine vl_end [(0, _), (1, _), (5, _)] ⟨rfl, rfl, rfl, trivial⟩ ?_
  refine then_next ?_
  refine vc_block ?_
  refine vc_loopJ (fun zf zL zm => ∃ (k : Nat), (k ≤ ids.length ∧ ∀ i, i < k → risC bound ids i) ∧ ids.length - k = zm ∧ Sub zf [(0, .int .i64 bound), (1, .slice A ids.length c), (5, .int .i64 k)] ∧ Wk zL (F)) _ ⟨0, ⟨Nat.zero_le _, fun i h => absurd h (by omega)⟩, rfl, ⟨(by first | rfl | exact int_to (by omega) | exact sl_to (by omega)), (by first | rfl | exact int_to (by omega) | exact sl_to (by omega)), (by first | rfl | exact int_to (by omega) | exact sl_to (by omega)), trivial⟩, .refl _⟩ ?_
  rintro _ _ _ ⟨k, ⟨hk, hall⟩, rfl, hs, hp⟩
  refine vc_weaken _ hs (vc_wk hp ?_)
  clear hs hp
  refine vc_seq ?_
  refine vc_seq ?_
  refine vc_region ?_
  refine vl_det (det_move rfl) rfl ?_
  refine vl_det (det_move rfl) rfl ?_
  refine vl_det (det_len_sl Try.underlying37 rfl) rfl ?_
  refine vl_det (det_lss rfl rfl) rfl ?_
  refine vl_end [(0, _), (1, _), (5, _), (9, _)] ⟨rfl, rfl, rfl, rfl, trivial⟩ ?_
  refine then_next ?_
  refine vc_decideU rfl (fun h9 => ?_) (fun h9 => ?_)
  · skip
    refine vc_skip ?_
    refine then_next ?_
    refine vc_seq ?_
    refine vc_block ?_
    refine vc_seq ?_
    refine vq_region (by kernel_rfl) (by kernel_rfl) ?_
    refine vq_cut 29 40 [(0, _), (1, _), (5, _)] ((ids.getD k 0 < 0 ∨ bound ≤ ids.getD k 0) ∨ (0 : Int) < k ∧ ids.getD k 0 ≤ ids.getD (k - 1) 0) ⟨rfl, rfl, rfl, trivial⟩ ?_ ?_
    · skip
      refine vq_det (det_move rfl) rfl ?_
      refine vq_det (det_move rfl) rfl ?_
      refine vq_det (det_indexAddr (size := 1) Try.underlying37 (by kernel_rfl) rfl rfl rfl (by omega) (by first | (exact Bor.own (by repeat (first | exact List.Mem.head _ | apply List.Mem.tail))) | (repeat (first | assumption | apply Bor.cons)))) rfl ?_
      refine vq_det (det_load_int (by kernel_rfl) rfl (by first | (exact Bor.own (by repeat (first | exact List.Mem.head _ | apply List.Mem.tail))) | (repeat (first | assumption | apply Bor.cons))) (by omega)) rfl ?_
      refine vq_det (det_lss rfl rfl) rfl ?_
      refine vq_det (det_move rfl) rfl ?_
      refine vq_guardn rfl rfl rfl (fun h17 => ?_) (fun h17 => ?_)
      · skip
        refine vq_det (det_move rfl) rfl ?_
        refine vq_guard_t rfl rfl ?_
        refine vq_det (det_move rfl) rfl ?_
        refine vq_guard_t rfl rfl ?_
        refine vq_det (det_indexAddr (size := 1) Try.underlying37 (by kernel_rfl) rfl rfl rfl (by omega) (by first | (exact Bor.own (by repeat (first | exact List.Mem.head _ | apply List.Mem.tail))) | (repeat (first | assumption | apply Bor.cons)))) rfl ?_
        refine vq_guard_t rfl rfl ?_
        refine vq_det (det_load_int (by kernel_rfl) rfl (by first | (exact Bor.own (by repeat (first | exact List.Mem.head _ | apply List.Mem.tail))) | (repeat (first | assumption | apply Bor.cons))) (by omega)) rfl ?_
        refine vq_guard_t rfl rfl ?_
        refine vq_det (det_move rfl) rfl ?_
        refine vq_guard_t rfl rfl ?_
        refine vq_det (det_geq rfl rfl) rfl ?_
        refine vq_det (det_pick_f rfl rfl) rfl ?_
        refine vq_det (det_move rfl) rfl ?_
        refine vq_guardn rfl rfl rfl (fun h25 => ?_) (fun h25 => ?_)
        · skip
          refine vq_det (det_move rfl) rfl ?_
          refine vq_guard_t rfl rfl ?_
          refine vq_det (det_gtr rfl rfl) rfl ?_
          refine vq_guard_t rfl rfl ?_
          refine vq_det (det_move rfl) rfl ?_
          refine vq_guardp rfl rfl rfl (fun h28 => ?_) (fun h28 => ?_)
          · skip
            refine vq_det (det_move rfl) rfl ?_
            refine vq_guard_t rfl rfl ?_
            refine vq_det (det_move rfl) rfl ?_
            refine vq_guard_t rfl rfl ?_
            refine vq_det (det_indexAddr (size := 1) Try.underlying37 (by kernel_rfl) rfl rfl rfl (by omega) (by first | (exact Bor.own (by repeat (first | exact List.Mem.head _ | apply List.Mem.tail))) | (repeat (first | assumption | apply Bor.cons)))) rfl ?_
            refine vq_guard_t rfl rfl ?_
            refine vq_det (det_load_int (by kernel_rfl) rfl (by first | (exact Bor.own (by repeat (first | exact List.Mem.head _ | apply List.Mem.tail))) | (repeat (first | assumption | apply Bor.cons))) (by omega)) rfl ?_
            refine vq_guard_t rfl rfl ?_
            refine vq_det (det_move rfl) rfl ?_
            refine vq_guard_t rfl rfl ?_
            refine vq_det (det_move rfl) rfl ?_
            refine vq_guard_t rfl rfl ?_
            refine vq_det (det_sub rfl rfl (r := ((k - 1 : Nat) : Int)) ((w_i64 (by omega) (by omega)).trans (by omega))) rfl ?_
            refine vq_guard_t rfl rfl ?_
            refine vq_det (det_indexAddr (size := 1) Try.underlying37 (by kernel_rfl) rfl rfl rfl (by omega) (by first | (exact Bor.own (by repeat (first | exact List.Mem.head _ | apply List.Mem.tail))) | (repeat (first | assumption | apply Bor.cons)))) rfl ?_
            refine vq_guard_t rfl rfl ?_
            refine vq_det (det_load_int (by kernel_rfl) rfl (by first | (exact Bor.own (by repeat (first | exact List.Mem.head _ | apply List.Mem.tail))) | (repeat (first | assumption | apply Bor.cons))) (by omega)) rfl ?_
            refine vq_guard_t rfl rfl ?_
            refine vq_det (det_leq rfl rfl) rfl ?_
            refine vq_guard_t rfl rfl ?_
            refine vq_det (det_pick_t rfl rfl) rfl ?_
            refine vq_det (det_pick_f rfl rfl) rfl ?_
            exact vq_cut_end ⟨rfl, rfl, rfl, trivial⟩ (by first | rfl | exact bool_to_t (by first | omega | simp_all) | exact bool_to_f (by first | omega | simp_all) | exact bool_to (by first | omega | simp_all) | exact bool_to_b (by first | omega | simp_all))
          · skip
            refine vq_guard_f rfl rfl rfl rfl ?_
            refine vq_guard_f rfl rfl rfl rfl ?_
            refine vq_guard_f rfl rfl rfl rfl ?_
            refine vq_guard_f rfl rfl rfl rfl ?_
            refine vq_guard_f rfl rfl rfl rfl ?_
            refine vq_guard_f rfl rfl rfl rfl ?_
            refine vq_guard_f rfl rfl rfl rfl ?_
            refine vq_guard_f rfl rfl rfl rfl ?_
            refine vq_guard_f rfl rfl rfl rfl ?_
            refine vq_guard_t rfl rfl ?_
            refine vq_det (det_pick_f rfl rfl) rfl ?_
            refine vq_det (det_pick_f rfl rfl) rfl ?_
            exact vq_cut_end ⟨rfl, rfl, rfl, trivial⟩ (by first | rfl | exact bool_to_t (by first | omega | simp_all) | exact bool_to_f (by first | omega | simp_all) | exact bool_to (by first | omega | simp_all) | exact bool_to_b (by first | omega | simp_all))
        · skip
          refine vq_guard_f rfl rfl rfl rfl ?_
          refine vq_guard_f rfl rfl rfl rfl ?_
          refine vq_guard_u rfl rfl rfl ?_
          refine vq_guard_u rfl rfl rfl ?_
          refine vq_guard_u rfl rfl rfl ?_
          refine vq_guard_u rfl rfl rfl ?_
          refine vq_guard_u rfl rfl rfl ?_
          refine vq_guard_u rfl rfl rfl ?_
          refine vq_guard_u rfl rfl rfl ?_
          refine vq_guard_u rfl rfl rfl ?_
          refine vq_guard_u rfl rfl rfl ?_
          refine vq_guard_u rfl rfl rfl ?_
          refine vq_guard_f rfl rfl rfl rfl ?_
          refine vq_det (det_pick_t rfl rfl) rfl ?_
          exact vq_cut_end ⟨rfl, rfl, rfl, trivial⟩ (by first | rfl | exact bool_to_t (by first | omega | simp_all) | exact bool_to_f (by first | omega | simp_all) | exact bool_to (by first | omega | simp_all) | exact bool_to_b (by first | omega | simp_all))
      · skip
        refine vq_guard_f rfl rfl rfl rfl ?_
        refine vq_guard_f rfl rfl rfl rfl ?_
        refine vq_guard_f rfl rfl rfl rfl ?_
        refine vq_guard_f rfl rfl rfl rfl ?_
        refine vq_guard_f rfl rfl rfl rfl ?_
        refine vq_det (det_pick_t rfl rfl) rfl ?_
        refine vq_det (det_move rfl) rfl ?_
        refine vq_guard_f rfl rfl rfl rfl ?_
        refine vq_guard_f rfl rfl rfl rfl ?_
        refine vq_guard_f rfl rfl rfl rfl ?_
        refine vq_guard_u rfl rfl rfl ?_
        refine vq_guard_u rfl rfl rfl ?_
        refine vq_guard_u rfl rfl rfl ?_
        refine vq_guard_u rfl rfl rfl ?_
        refine vq_guard_u rfl rfl rfl ?_
        refine vq_guard_u rfl rfl rfl ?_
        refine vq_guard_u rfl rfl rfl ?_
        refine vq_guard_u rfl rfl rfl ?_
        refine vq_guard_u rfl rfl rfl ?_
        refine vq_guard_u rfl rfl rfl ?_
        refine vq_guard_f rfl rfl rfl rfl ?_
        refine vq_det (det_pick_t rfl rfl) rfl ?_
        exact vq_cut_end ⟨rfl, rfl, rfl, trivial⟩ (by first | rfl | exact bool_to_t (by first | omega | simp_all) | exact bool_to_f (by first | omega | simp_all) | exact bool_to (by first | omega | simp_all) | exact bool_to_b (by first | omega | simp_all))
    · skip
      refine vq_end [(0, _), (1, _), (5, _), (40, _)] ⟨rfl, rfl, rfl, rfl, trivial⟩ ?_
      refine then_next ?_
      refine vc_decideU rfl (fun h40 => ?_) (fun h40 => ?_)
      · skip
        refine vc_seq ?_
        refine vc_region ?_
        refine vl_det (det_assign rfl) rfl ?_
        refine vl_end [(4, _)] ⟨rfl, trivial⟩ ?_
        refine then_next ?_
        refine vc_ret ?_
        refine in_ret ?_
        refine then_ret ?_
        refine loop_ret ?_
        refine in_ret ?_
        refine then_ret ?_
        refine ret1 rfl rfl ?_
        exact ⟨by rw [decide_eq_false (fun h => by have := h k (by omega); unfold risC at this; omega)], rfl⟩
      · skip
        refine vc_skip ?_
        refine in_normal ?_
        refine then_next ?_
        refine vc_region ?_
        refine vl_det (det_move rfl) rfl ?_
        refine vl_det (det_add rfl rfl (w_i64 (by omega) (by omega))) rfl ?_
        refine vl_det (det_assign rfl) rfl ?_
        refine vl_end [(0, _), (1, _), (5, _)] ⟨rfl, rfl, rfl, trivial⟩ ?_
        refine in_loop_ ⟨_, by omega, k + 1, ⟨by omega, fun i h => by rcases Nat.lt_succ_iff_lt_or_eq.1 h with h | h; exact hall i h; subst h; unfold risC; exact ⟨by omega, by omega, fun _ => by omega⟩⟩, rfl, ⟨(by first | rfl | exact int_to (by omega) | exact sl_to (by omega)), (by first | rfl | exact int_to (by omega) | exact sl_to (by omega)), (by first | rfl | exact int_to (by omega) | exact sl_to (by omega)), trivial⟩, .refl _⟩
  · skip
    refine vc_exit ?_
    refine then_exit ?_
    refine loop_exit ?_
    refine in_eq ?_
    refine then_next ?_
    refine vc_seq ?_
    refine vc_region ?_
    refine vl_det (det_assign rfl) rfl ?_
    refine vl_end [(4, _)] ⟨rfl, trivial⟩ ?_
    refine then_next ?_
    refine vc_ret ?_
    refine ret1 rfl rfl ?_
    exact ⟨by rw [decide_eq_true (show Ris bound ids from fun i hi => hall i (by omega))], rfl⟩
/-! parts -/
abbrev Pt (g : Nat) (bt : TypeId) (w p : Nat) (A1 : Option Addr) (c1 : Nat) (A2 : Option Addr) (c2 : Nat) (xs : List Nat) (F : List Ch) : List Ch := .blk g bt [.int .i64 w, .slice A1 xs.length c1, .slice A2 xs.length c2] :: .own 3 1 A1 xs.length c1 (natv (xs.map (· / p))) :: .own 47 1 A2 xs.length c2 (u16v (xs.map (· % p))) :: F
theorem shrP {x w p : Nat} (hp : p = 2 ^ w) (hw : w ≤ 14) : (x : Int).fdiv (2 ^ min (w : Int).toNat IntKind.i64.bits) = ((x / p : Nat) : Int) := by
  have e : min (w : Int).toNat IntKind.i64.bits = w := by
    rw [Int.toNat_natCast]; exact Nat.min_eq_left (show w ≤ 64 by omega)
  rw [e, hp, Int.fdiv_eq_ediv_of_nonneg _ (Int.le_of_lt (Int.pow_pos (by decide))), Int.natCast_ediv]
  congr 1
theorem shlP {x w p : Nat} (hp : p = 2 ^ w) (hw : w ≤ 14) (hx : x * p ≤ 4611686018427387904) : IntKind.i64.wrap ((x : Int) * 2 ^ min (w : Int).toNat IntKind.i64.bits) = ((x * p : Nat) : Int) := by
  have e : min (w : Int).toNat IntKind.i64.bits = w := by
    rw [Int.toNat_natCast]; exact Nat.min_eq_left (show w ≤ 64 by omega)
  have e2 : (x : Int) * 2 ^ w = ((x * p : Nat) : Int) := by rw [hp, Int.natCast_mul]; congr 1
  rw [e, e2]
  exact w_i64 (by omega) (by omega)
theorem andP {x w p : Nat} (hp : p = 2 ^ w) (hx : x < 9223372036854775808) (hpb : p ≤ 16384) : IntKind.i64.wrap ((BitVec.ofInt IntKind.i64.bits (x : Int) &&& BitVec.ofInt IntKind.i64.bits ((p - 1 : Nat) : Int)).toNat : Int) = ((x % p : Nat) : Int) := by
  have h := i64_and x (p - 1) hx (by omega)
  rw [hp, Nat.and_two_pow_sub_one_eq_mod, ← hp] at h
  exact h
theorem orP {x w p : Nat} (hp : p = 2 ^ w) (hx : x < 9223372036854775808) : IntKind.i64.wrap ((BitVec.ofInt IntKind.i64.bits ((x / p * p : Nat) : Int) ||| BitVec.ofInt IntKind.i64.bits ((x % p : Nat) : Int)).toNat : Int) = (x : Int) := by
  have h1 : x / p * p ≤ x := Nat.div_mul_le_self x p
  have h2 : x % p ≤ x := Nat.mod_le x p
  have h := i64_or (x / p * p) (x % p) (by omega) (by omega)
  have e : x / p * p ||| x % p = x := by
    have hlt : x % p < 2 ^ w := by rw [← hp]; exact Nat.mod_lt _ (by rw [hp]; exact Nat.two_pow_pos w)
    rw [hp] at hlt ⊢
    rw [Nat.mul_comm, ← Nat.two_pow_add_eq_or_of_lt hlt]
    exact Nat.div_add_mod x (2 ^ w)
  rw [e] at h
  exact h
theorem padd_d (bt : TypeId) {w p : Nat} (hp : p = 2 ^ w) (hw : w ≤ 14) (xs : List Nat) (x : Nat) (hx : x ≤ 1000000) (hl : xs.length ≤ 1000000) :
    Does Try.prog B w0 67 [.pointer (some ⟨g, 0, none⟩), .int .i64 x] (Pt g bt w p A1 c1 A2 c2 xs F) (fun r L => r = .tuple #[] ∧ ∃ A1' c1' A2' c2', L = Pt g bt w p A1' c1' A2' c2' (xs ++ [x]) F) := by
  have hpb : p ≤ 16384 := by rw [hp]; exact pow_le14 hw
  have hp0 : 1 ≤ p := by rw [hp]; exact Nat.one_le_two_pow
  have hmod : x % p < p := Nat.mod_lt _ hp0
  refine fn_walk Try.func67 37 rfl rfl rfl [(0, .pointer (some ⟨g, 0, none⟩)), (1, .int .i64 x)] ⟨⟨rfl, rfl⟩, ⟨rfl, rfl⟩, trivial⟩ ?_
  refine vc_seqJ (fun zf zL => ∃ (A3 : Option Addr) (c3 : Nat), Sub zf [(0, .pointer (some ⟨g, 0, none⟩)), (1, .int .i64 x)] ∧ Wk zL (.blk g bt [.int .i64 w, .slice A3 (xs.length + 1) c3, .slice A2 xs.length c2] :: .own 3 1 A3 (xs.length + 1) c3 (natv ((xs ++ [x]).map (· / p))) :: .own 47 1 A2 xs.length c2 (u16v (xs.map (· % p))) :: F)) ?_ ?_
  · skip
    refine vh_region (S := .own 47 1 A2 xs.length c2 (u16v (xs.map (· % p))) :: F) (by kernel_rfl) (by repeat (first | exact List.Sublist.refl _ | exact List.nil_sublist _ | apply List.Sublist.cons_cons | apply List.Sublist.cons)) ?_
    refine vh_take 0 rfl (by kernel_rfl) (by kernel_rfl) (by kernel_rfl) (det_move rfl) rfl ?_
    refine vh_take 1 rfl (by kernel_rfl) (by kernel_rfl) (by kernel_rfl) (det_move rfl) rfl ?_
    refine vh_take 2 rfl (by kernel_rfl) (by kernel_rfl) (by kernel_rfl) (det_nilCheck rfl) rfl ?_
    refine vh_take 3 rfl (by kernel_rfl) (by kernel_rfl) (by kernel_rfl) (det_fieldAddr_ Try.underlying103 rfl (by kernel_rfl) rfl rfl) rfl ?_
    refine vh_take 5 rfl (by kernel_rfl) (by kernel_rfl) (by kernel_rfl) (det_move rfl) rfl ?_
    refine vh_take 6 rfl (by kernel_rfl) (by kernel_rfl) (by kernel_rfl) (det_move rfl) rfl ?_
    refine vh_take 7 rfl (by kernel_rfl) (by kernel_rfl) (by kernel_rfl) (det_nilCheck rfl) rfl ?_
    refine vh_take 8 rfl (by kernel_rfl) (by kernel_rfl) (by kernel_rfl) (det_fieldAddr_ Try.underlying103 rfl (by kernel_rfl) rfl rfl) rfl ?_
    refine vh_two 4 9 (by kernel_rfl) ?_ ?_
    · skip
      refine st_det rfl .no (det_load_blk (by kernel_rfl) rfl (by repeat (first | exact .hd | apply Sel.tl)) rfl) rfl (by repeat (first | exact List.Sublist.refl _ | exact List.nil_sublist _ | apply List.Sublist.cons_cons | apply List.Sublist.cons)) ?_
      refine vh_one 9 (by kernel_rfl) ?_
      refine st_det rfl .no (det_load_blk (by kernel_rfl) rfl (by repeat (first | exact .hd | apply Sel.tl)) rfl) rfl (by repeat (first | exact List.Sublist.refl _ | exact List.nil_sublist _ | apply List.Sublist.cons_cons | apply List.Sublist.cons)) ?_
      refine vh_take 10 rfl (by kernel_rfl) (by kernel_rfl) (by kernel_rfl) (det_shr rfl rfl (by omega) (shrP hp hw)) rfl ?_
      refine vh_one 11 (by kernel_rfl) ?_
      refine st_eff rfl .no (eff_build_lit slT37 [_] rfl rfl (by first | exact bv_one _ | exact strs_one _ | exact ints_one _ _ | (simp; done) | (simp [Value.oneCell']; done) | assumption) (by omega) (by omega)) rfl (by rintro _ _ ⟨A15, rfl, rfl⟩; exact (by repeat (first | exact List.Sublist.refl _ | exact List.nil_sublist _ | apply List.Sublist.cons_cons | apply List.Sublist.cons))) ?_
      rintro _ _ ⟨A15, rfl, rfl⟩
      refine vh_one 12 (by kernel_rfl) ?_
      refine st_eff rfl .no (eff_app slT37 rfl (by repeat (first | exact .hd | apply Sel.tl)) rfl (by first | (exact Bor.own (by repeat (first | exact List.Mem.head _ | apply List.Mem.tail))) | (repeat (first | assumption | apply Bor.cons))) (by first | exact bv_one _ | exact strs_one _ | exact ints_one _ _ | (simp; done) | (simp [Value.oneCell']; done) | assumption) (by omega) (by omega)) rfl (by rintro _ _ ⟨A16, c16, rfl, rfl⟩; exact (by repeat (first | exact List.Sublist.refl _ | exact List.nil_sublist _ | apply List.Sublist.cons_cons | apply List.Sublist.cons))) ?_
      rintro _ _ ⟨A16, c16, rfl, rfl⟩
      refine vh_take 13 rfl (by kernel_rfl) (by kernel_rfl) (by kernel_rfl) (det_nilCheck rfl) rfl ?_
      refine vh_take 14 rfl (by kernel_rfl) (by kernel_rfl) (by kernel_rfl) (det_fieldAddr_ Try.underlying103 rfl (by kernel_rfl) rfl rfl) rfl ?_
      refine vh_one 15 (by kernel_rfl) ?_
      refine st_eff0 rfl .no (eff_store (by kernel_rfl) rfl rfl rfl (by repeat (first | exact .hd | apply Sel.tl)) (by simp)) (by rintro _ _ rfl; exact (by repeat (first | exact List.Sublist.refl _ | exact List.nil_sublist _ | apply List.Sublist.cons_cons | apply List.Sublist.cons))) ?_
      rintro _ _ rfl
      refine vh_done [(0, _), (1, _)] ⟨rfl, rfl, trivial⟩ (by kernel_rfl) ?_
      exact in_join ⟨A16, c16, ⟨(by first | rfl | exact int_to (by omega) | exact sl_to (by omega)), (by first | rfl | exact int_to (by omega) | exact sl_to (by omega)), trivial⟩, .skip (wk_blk rfl (wk_own rfl (by simp [natv]) (.refl _)))⟩
    · skip
      refine st_det rfl .no (det_load_blk (by kernel_rfl) rfl (by repeat (first | exact .hd | apply Sel.tl)) rfl) rfl (by repeat (first | exact List.Sublist.refl _ | exact List.nil_sublist _ | apply List.Sublist.cons_cons | apply List.Sublist.cons)) ?_
      refine vh_take 10 rfl (by kernel_rfl) (by kernel_rfl) (by kernel_rfl) (det_shr rfl rfl (by omega) (shrP hp hw)) rfl ?_
      refine vh_two 4 11 (by kernel_rfl) ?_ ?_
      · skip
        refine st_det rfl .no (det_load_blk (by kernel_rfl) rfl (by repeat (first | exact .hd | apply Sel.tl)) rfl) rfl (by repeat (first | exact List.Sublist.refl _ | exact List.nil_sublist _ | apply List.Sublist.cons_cons | apply List.Sublist.cons)) ?_
        refine vh_one 11 (by kernel_rfl) ?_
        refine st_eff rfl .no (eff_build_lit slT37 [_] rfl rfl (by first | exact bv_one _ | exact strs_one _ | exact ints_one _ _ | (simp; done) | (simp [Value.oneCell']; done) | assumption) (by omega) (by omega)) rfl (by rintro _ _ ⟨A15, rfl, rfl⟩; exact (by repeat (first | exact List.Sublist.refl _ | exact List.nil_sublist _ | apply List.Sublist.cons_cons | apply List.Sublist.cons))) ?_
        rintro _ _ ⟨A15, rfl, rfl⟩
        refine vh_one 12 (by kernel_rfl) ?_
        refine st_eff rfl .no (eff_app slT37 rfl (by repeat (first | exact .hd | apply Sel.tl)) rfl (by first | (exact Bor.own (by repeat (first | exact List.Mem.head _ | apply List.Mem.tail))) | (repeat (first | assumption | apply Bor.cons))) (by first | exact bv_one _ | exact strs_one _ | exact ints_one _ _ | (simp; done) | (simp [Value.oneCell']; done) | assumption) (by omega) (by omega)) rfl (by rintro _ _ ⟨A16, c16, rfl, rfl⟩; exact (by repeat (first | exact List.Sublist.refl _ | exact List.nil_sublist _ | apply List.Sublist.cons_cons | apply List.Sublist.cons))) ?_
        rintro _ _ ⟨A16, c16, rfl, rfl⟩
        refine vh_take 13 rfl (by kernel_rfl) (by kernel_rfl) (by kernel_rfl) (det_nilCheck rfl) rfl ?_
        refine vh_take 14 rfl (by kernel_rfl) (by kernel_rfl) (by kernel_rfl) (det_fieldAddr_ Try.underlying103 rfl (by kernel_rfl) rfl rfl) rfl ?_
        refine vh_one 15 (by kernel_rfl) ?_
        refine st_eff0 rfl .no (eff_store (by kernel_rfl) rfl rfl rfl (by repeat (first | exact .hd | apply Sel.tl)) (by simp)) (by rintro _ _ rfl; exact (by repeat (first | exact List.Sublist.refl _ | exact List.nil_sublist _ | apply List.Sublist.cons_cons | apply List.Sublist.cons))) ?_
        rintro _ _ rfl
        refine vh_done [(0, _), (1, _)] ⟨rfl, rfl, trivial⟩ (by kernel_rfl) ?_
        exact in_join ⟨A16, c16, ⟨(by first | rfl | exact int_to (by omega) | exact sl_to (by omega)), (by first | rfl | exact int_to (by omega) | exact sl_to (by omega)), trivial⟩, .skip (wk_blk rfl (wk_own rfl (by simp [natv]) (.refl _)))⟩
      · skip
        refine st_eff rfl .no (eff_build_lit slT37 [_] rfl rfl (by first | exact bv_one _ | exact strs_one _ | exact ints_one _ _ | (simp; done) | (simp [Value.oneCell']; done) | assumption) (by omega) (by omega)) rfl (by rintro _ _ ⟨A15, rfl, rfl⟩; exact (by repeat (first | exact List.Sublist.refl _ | exact List.nil_sublist _ | apply List.Sublist.cons_cons | apply List.Sublist.cons))) ?_
        rintro _ _ ⟨A15, rfl, rfl⟩
        refine vh_one 4 (by kernel_rfl) ?_
        refine st_det rfl .no (det_load_blk (by kernel_rfl) rfl (by repeat (first | exact .hd | apply Sel.tl)) rfl) rfl (by repeat (first | exact List.Sublist.refl _ | exact List.nil_sublist _ | apply List.Sublist.cons_cons | apply List.Sublist.cons)) ?_
        refine vh_one 12 (by kernel_rfl) ?_
        refine st_eff rfl .no (eff_app slT37 rfl (by repeat (first | exact .hd | apply Sel.tl)) rfl (by first | (exact Bor.own (by repeat (first | exact List.Mem.head _ | apply List.Mem.tail))) | (repeat (first | assumption | apply Bor.cons))) (by first | exact bv_one _ | exact strs_one _ | exact ints_one _ _ | (simp; done) | (simp [Value.oneCell']; done) | assumption) (by omega) (by omega)) rfl (by rintro _ _ ⟨A16, c16, rfl, rfl⟩; exact (by repeat (first | exact List.Sublist.refl _ | exact List.nil_sublist _ | apply List.Sublist.cons_cons | apply List.Sublist.cons))) ?_
        rintro _ _ ⟨A16, c16, rfl, rfl⟩
        refine vh_take 13 rfl (by kernel_rfl) (by kernel_rfl) (by kernel_rfl) (det_nilCheck rfl) rfl ?_
        refine vh_take 14 rfl (by kernel_rfl) (by kernel_rfl) (by kernel_rfl) (det_fieldAddr_ Try.underlying103 rfl (by kernel_rfl) rfl rfl) rfl ?_
        refine vh_one 15 (by kernel_rfl) ?_
        refine st_eff0 rfl .no (eff_store (by kernel_rfl) rfl rfl rfl (by repeat (first | exact .hd | apply Sel.tl)) (by simp)) (by rintro _ _ rfl; exact (by repeat (first | exact List.Sublist.refl _ | exact List.nil_sublist _ | apply List.Sublist.cons_cons | apply List.Sublist.cons))) ?_
        rintro _ _ rfl
        refine vh_done [(0, _), (1, _)] ⟨rfl, rfl, trivial⟩ (by kernel_rfl) ?_
        exact in_join ⟨A16, c16, ⟨(by first | rfl | exact int_to (by omega) | exact sl_to (by omega)), (by first | rfl | exact int_to (by omega) | exact sl_to (by omega)), trivial⟩, .skip (wk_blk rfl (wk_own rfl (by simp [natv]) (.refl _)))⟩
  · rintro _ _ ⟨A3, c3, hs, hp⟩
    refine vc_weaken _ hs (vc_wk hp ?_)
    clear hs hp
    refine vh_region (S := .own 3 1 A3 (xs.length + 1) c3 (natv ((xs ++ [x]).map (· / p))) :: F) (by kernel_rfl) (by repeat (first | exact List.Sublist.refl _ | exact List.nil_sublist _ | apply List.Sublist.cons_cons | apply List.Sublist.cons)) ?_
    refine vh_take 0 rfl (by kernel_rfl) (by kernel_rfl) (by kernel_rfl) (det_move rfl) rfl ?_
    refine vh_take 1 rfl (by kernel_rfl) (by kernel_rfl) (by kernel_rfl) (det_move rfl) rfl ?_
    refine vh_take 2 rfl (by kernel_rfl) (by kernel_rfl) (by kernel_rfl) (det_nilCheck rfl) rfl ?_
    refine vh_take 3 rfl (by kernel_rfl) (by kernel_rfl) (by kernel_rfl) (det_fieldAddr_ Try.underlying103 rfl (by kernel_rfl) rfl rfl) rfl ?_
    refine vh_take 5 rfl (by kernel_rfl) (by kernel_rfl) (by kernel_rfl) (det_move rfl) rfl ?_
    refine vh_take 6 rfl (by kernel_rfl) (by kernel_rfl) (by kernel_rfl) (det_move rfl) rfl ?_
    refine vh_take 7 rfl (by kernel_rfl) (by kernel_rfl) (by kernel_rfl) (det_nilCheck rfl) rfl ?_
    refine vh_take 8 rfl (by kernel_rfl) (by kernel_rfl) (by kernel_rfl) (det_fieldAddr_ Try.underlying103 rfl (by kernel_rfl) rfl rfl) rfl ?_
    refine vh_two 4 9 (by kernel_rfl) ?_ ?_
    · skip
      refine st_det rfl .no (det_load_blk (by kernel_rfl) rfl (by repeat (first | exact .hd | apply Sel.tl)) rfl) rfl (by repeat (first | exact List.Sublist.refl _ | exact List.nil_sublist _ | apply List.Sublist.cons_cons | apply List.Sublist.cons)) ?_
      refine vh_one 9 (by kernel_rfl) ?_
      refine st_det rfl .no (det_load_blk (by kernel_rfl) rfl (by repeat (first | exact .hd | apply Sel.tl)) rfl) rfl (by repeat (first | exact List.Sublist.refl _ | exact List.nil_sublist _ | apply List.Sublist.cons_cons | apply List.Sublist.cons)) ?_
      refine vh_take 10 rfl (by kernel_rfl) (by kernel_rfl) (by kernel_rfl) (det_shl rfl rfl (by omega) ((shlP (x := 1) hp hw (by omega)).trans (by rw [Nat.one_mul]))) rfl ?_
      refine vh_take 11 rfl (by kernel_rfl) (by kernel_rfl) (by kernel_rfl) (det_sub rfl rfl (r := ((p - 1 : Nat) : Int)) ((w_i64 (by omega) (by omega)).trans (by omega))) rfl ?_
      refine vh_take 12 rfl (by kernel_rfl) (by kernel_rfl) (by kernel_rfl) (det_and rfl rfl (andP hp (by omega) hpb)) rfl ?_
      refine vh_take 13 rfl (by kernel_rfl) (by kernel_rfl) (by kernel_rfl) (det_conv Try.underlying3 Try.underlying47 rfl (w_u16 (by omega) (by omega))) rfl ?_
      refine vh_one 14 (by kernel_rfl) ?_
      refine st_eff rfl .no (eff_build_lit slT101 [_] rfl rfl (by first | exact bv_one _ | exact strs_one _ | exact ints_one _ _ | (simp; done) | (simp [Value.oneCell']; done) | assumption) (by omega) (by omega)) rfl (by rintro _ _ ⟨A33, rfl, rfl⟩; exact (by repeat (first | exact List.Sublist.refl _ | exact List.nil_sublist _ | apply List.Sublist.cons_cons | apply List.Sublist.cons))) ?_
      rintro _ _ ⟨A33, rfl, rfl⟩
      refine vh_one 15 (by kernel_rfl) ?_
      refine st_eff rfl .no (eff_app slT101 rfl (by repeat (first | exact .hd | apply Sel.tl)) rfl (by first | (exact Bor.own (by repeat (first | exact List.Mem.head _ | apply List.Mem.tail))) | (repeat (first | assumption | apply Bor.cons))) (by first | exact bv_one _ | exact strs_one _ | exact ints_one _ _ | (simp; done) | (simp [Value.oneCell']; done) | assumption) (by omega) (by omega)) rfl (by rintro _ _ ⟨A34, c34, rfl, rfl⟩; exact (by repeat (first | exact List.Sublist.refl _ | exact List.nil_sublist _ | apply List.Sublist.cons_cons | apply List.Sublist.cons))) ?_
      rintro _ _ ⟨A34, c34, rfl, rfl⟩
      refine vh_take 16 rfl (by kernel_rfl) (by kernel_rfl) (by kernel_rfl) (det_nilCheck rfl) rfl ?_
      refine vh_take 17 rfl (by kernel_rfl) (by kernel_rfl) (by kernel_rfl) (det_fieldAddr_ Try.underlying103 rfl (by kernel_rfl) rfl rfl) rfl ?_
      refine vh_one 18 (by kernel_rfl) ?_
      refine st_eff0 rfl .no (eff_store (by kernel_rfl) rfl rfl rfl (by repeat (first | exact .hd | apply Sel.tl)) (by simp)) (by rintro _ _ rfl; exact (by repeat (first | exact List.Sublist.refl _ | exact List.nil_sublist _ | apply List.Sublist.cons_cons | apply List.Sublist.cons))) ?_
      rintro _ _ rfl
      refine vh_done [] trivial (by kernel_rfl) ?_
      refine ret_n ?_
      have el : xs.length + 1 = (xs ++ [x]).length := by simp
      rw [el]
      refine ret_wk (L' := Pt g bt w p A3 c3 A34 c34 (xs ++ [x]) F) (.skip (.cons (.cons (wk_own rfl (by simp [u16v]) (.refl _))))) ?_
      refine ret0 rfl ?_
      exact ⟨rfl, A3, c3, A34, c34, rfl⟩
    · skip
      refine st_det rfl .no (det_load_blk (by kernel_rfl) rfl (by repeat (first | exact .hd | apply Sel.tl)) rfl) rfl (by repeat (first | exact List.Sublist.refl _ | exact List.nil_sublist _ | apply List.Sublist.cons_cons | apply List.Sublist.cons)) ?_
      refine vh_take 10 rfl (by kernel_rfl) (by kernel_rfl) (by kernel_rfl) (det_shl rfl rfl (by omega) ((shlP (x := 1) hp hw (by omega)).trans (by rw [Nat.one_mul]))) rfl ?_
      refine vh_take 11 rfl (by kernel_rfl) (by kernel_rfl) (by kernel_rfl) (det_sub rfl rfl (r := ((p - 1 : Nat) : Int)) ((w_i64 (by omega) (by omega)).trans (by omega))) rfl ?_
      refine vh_take 12 rfl (by kernel_rfl) (by kernel_rfl) (by kernel_rfl) (det_and rfl rfl (andP hp (by omega) hpb)) rfl ?_
      refine vh_take 13 rfl (by kernel_rfl) (by kernel_rfl) (by kernel_rfl) (det_conv Try.underlying3 Try.underlying47 rfl (w_u16 (by omega) (by omega))) rfl ?_
      refine vh_two 4 14 (by kernel_rfl) ?_ ?_
      · skip
        refine st_det rfl .no (det_load_blk (by kernel_rfl) rfl (by repeat (first | exact .hd | apply Sel.tl)) rfl) rfl (by repeat (first | exact List.Sublist.refl _ | exact List.nil_sublist _ | apply List.Sublist.cons_cons | apply List.Sublist.cons)) ?_
        refine vh_one 14 (by kernel_rfl) ?_
        refine st_eff rfl .no (eff_build_lit slT101 [_] rfl rfl (by first | exact bv_one _ | exact strs_one _ | exact ints_one _ _ | (simp; done) | (simp [Value.oneCell']; done) | assumption) (by omega) (by omega)) rfl (by rintro _ _ ⟨A33, rfl, rfl⟩; exact (by repeat (first | exact List.Sublist.refl _ | exact List.nil_sublist _ | apply List.Sublist.cons_cons | apply List.Sublist.cons))) ?_
        rintro _ _ ⟨A33, rfl, rfl⟩
        refine vh_one 15 (by kernel_rfl) ?_
        refine st_eff rfl .no (eff_app slT101 rfl (by repeat (first | exact .hd | apply Sel.tl)) rfl (by first | (exact Bor.own (by repeat (first | exact List.Mem.head _ | apply List.Mem.tail))) | (repeat (first | assumption | apply Bor.cons))) (by first | exact bv_one _ | exact strs_one _ | exact ints_one _ _ | (simp; done) | (simp [Value.oneCell']; done) | assumption) (by omega) (by omega)) rfl (by rintro _ _ ⟨A34, c34, rfl, rfl⟩; exact (by repeat (first | exact List.Sublist.refl _ | exact List.nil_sublist _ | apply List.Sublist.cons_cons | apply List.Sublist.cons))) ?_
        rintro _ _ ⟨A34, c34, rfl, rfl⟩
        refine vh_take 16 rfl (by kernel_rfl) (by kernel_rfl) (by kernel_rfl) (det_nilCheck rfl) rfl ?_
        refine vh_take 17 rfl (by kernel_rfl) (by kernel_rfl) (by kernel_rfl) (det_fieldAddr_ Try.underlying103 rfl (by kernel_rfl) rfl rfl) rfl ?_
        refine vh_one 18 (by kernel_rfl) ?_
        refine st_eff0 rfl .no (eff_store (by kernel_rfl) rfl rfl rfl (by repeat (first | exact .hd | apply Sel.tl)) (by simp)) (by rintro _ _ rfl; exact (by repeat (first | exact List.Sublist.refl _ | exact List.nil_sublist _ | apply List.Sublist.cons_cons | apply List.Sublist.cons))) ?_
        rintro _ _ rfl
        refine vh_done [] trivial (by kernel_rfl) ?_
        refine ret_n ?_
        have el : xs.length + 1 = (xs ++ [x]).length := by simp
        rw [el]
        refine ret_wk (L' := Pt g bt w p A3 c3 A34 c34 (xs ++ [x]) F) (.skip (.cons (.cons (wk_own rfl (by simp [u16v]) (.refl _))))) ?_
        refine ret0 rfl ?_
        exact ⟨rfl, A3, c3, A34, c34, rfl⟩
      · skip
        refine st_eff rfl .no (eff_build_lit slT101 [_] rfl rfl (by first | exact bv_one _ | exact strs_one _ | exact ints_one _ _ | (simp; done) | (simp [Value.oneCell']; done) | assumption) (by omega) (by omega)) rfl (by rintro _ _ ⟨A33, rfl, rfl⟩; exact (by repeat (first | exact List.Sublist.refl _ | exact List.nil_sublist _ | apply List.Sublist.cons_cons | apply List.Sublist.cons))) ?_
        rintro _ _ ⟨A33, rfl, rfl⟩
        refine vh_one 4 (by kernel_rfl) ?_
        refine st_det rfl .no (det_load_blk (by kernel_rfl) rfl (by repeat (first | exact .hd | apply Sel.tl)) rfl) rfl (by repeat (first | exact List.Sublist.refl _ | exact List.nil_sublist _ | apply List.Sublist.cons_cons | apply List.Sublist.cons)) ?_
        refine vh_one 15 (by kernel_rfl) ?_
        refine st_eff rfl .no (eff_app slT101 rfl (by repeat (first | exact .hd | apply Sel.tl)) rfl (by first | (exact Bor.own (by repeat (first | exact List.Mem.head _ | apply List.Mem.tail))) | (repeat (first | assumption | apply Bor.cons))) (by first | exact bv_one _ | exact strs_one _ | exact ints_one _ _ | (simp; done) | (simp [Value.oneCell']; done) | assumption) (by omega) (by omega)) rfl (by rintro _ _ ⟨A34, c34, rfl, rfl⟩; exact (by repeat (first | exact List.Sublist.refl _ | exact List.nil_sublist _ | apply List.Sublist.cons_cons | apply List.Sublist.cons))) ?_
        rintro _ _ ⟨A34, c34, rfl, rfl⟩
        refine vh_take 16 rfl (by kernel_rfl) (by kernel_rfl) (by kernel_rfl) (det_nilCheck rfl) rfl ?_
        refine vh_take 17 rfl (by kernel_rfl) (by kernel_rfl) (by kernel_rfl) (det_fieldAddr_ Try.underlying103 rfl (by kernel_rfl) rfl rfl) rfl ?_
        refine vh_one 18 (by kernel_rfl) ?_
        refine st_eff0 rfl .no (eff_store (by kernel_rfl) rfl rfl rfl (by repeat (first | exact .hd | apply Sel.tl)) (by simp)) (by rintro _ _ rfl; exact (by repeat (first | exact List.Sublist.refl _ | exact List.nil_sublist _ | apply List.Sublist.cons_cons | apply List.Sublist.cons))) ?_
        rintro _ _ rfl
        refine vh_done [] trivial (by kernel_rfl) ?_
        refine ret_n ?_
        have el : xs.length + 1 = (xs ++ [x]).length := by simp
        rw [el]
        refine ret_wk (L' := Pt g bt w p A3 c3 A34 c34 (xs ++ [x]) F) (.skip (.cons (.cons (wk_own rfl (by simp [u16v]) (.refl _))))) ?_
        refine ret0 rfl ?_
        exact ⟨rfl, A3, c3, A34, c34, rfl⟩
theorem num_d' (bt : TypeId) {w p : Nat} (hp : p = 2 ^ w) (hw : w ≤ 14) (xs : List Nat) (i : Nat) (hi : i < xs.length) (hx : xs.getD i 0 ≤ 1000000) :
    Does Try.prog B w0 124 [.pointer (some ⟨g, 0, none⟩), .int .i64 i] (Pt g bt w p A1 c1 A2 c2 xs F) (fun r L => r = .int .i64 (xs.getD i 0 : Nat) ∧ L = Pt g bt w p A1 c1 A2 c2 xs F) := by
  have hH : (natv (xs.map (· / p)))[i * 1]? = some (.int .i64 (xs.getD i 0 / p : Nat)) := by simp [natv, List.getD, List.getElem?_eq_getElem hi]
  have hL : (u16v (xs.map (· % p)))[i * 1]? = some (.int .u16 (xs.getD i 0 % p : Nat)) := by simp [u16v, List.getD, List.getElem?_eq_getElem hi]
  have hpb : p ≤ 16384 := by rw [hp]; exact pow_le14 hw
  have hp0 : 1 ≤ p := by rw [hp]; exact Nat.one_le_two_pow
  have hmod : xs.getD i 0 % p < p := Nat.mod_lt _ hp0
  have hdm := Nat.div_mul_le_self (xs.getD i 0) p
  refine fn_walk Try.func124 26 rfl rfl rfl [(0, .pointer (some ⟨g, 0, none⟩)), (1, .int .i64 i)] ⟨⟨rfl, rfl⟩, ⟨rfl, rfl⟩, trivial⟩ ?_
  refine vc_seq ?_
  refine vc_region ?_
  refine vl_det (det_assign rfl) rfl ?_
  refine vl_end [(0, _), (1, _)] ⟨rfl, rfl, trivial⟩ ?_
  refine then_next ?_
  refine vc_seq ?_
  refine vq_region (by kernel_rfl) (by kernel_rfl) ?_
  refine vq_det (det_move rfl) rfl ?_
  refine vq_det (det_nilCheck rfl) rfl ?_
  refine vq_det (det_fieldAddr_ Try.underlying103 rfl (by kernel_rfl) rfl rfl) rfl ?_
  refine vq_det (det_load_blk (by kernel_rfl) rfl (by repeat (first | exact .hd | apply Sel.tl)) rfl) rfl ?_
  refine vq_det (det_move rfl) rfl ?_
  refine vq_det (det_indexAddr (size := 1) Try.underlying37 (by kernel_rfl) rfl rfl rfl (by omega) (by first | (exact Bor.own (by repeat (first | exact List.Mem.head _ | apply List.Mem.tail))) | (repeat (first | assumption | apply Bor.cons)))) rfl ?_
  refine vq_det (det_load_row (by kernel_rfl) rfl (by first | (exact Bor.own (by repeat (first | exact List.Mem.head _ | apply List.Mem.tail))) | (repeat (first | assumption | apply Bor.cons))) (by omega) hH) rfl ?_
  refine vq_det (det_move rfl) rfl ?_
  refine vq_det (det_nilCheck rfl) rfl ?_
  refine vq_det (det_fieldAddr_ Try.underlying103 rfl (by kernel_rfl) rfl rfl) rfl ?_
  refine vq_det (det_load_blk (by kernel_rfl) rfl (by repeat (first | exact .hd | apply Sel.tl)) rfl) rfl ?_
  refine vq_det (det_shl rfl rfl (by omega) (shlP hp hw (by omega))) rfl ?_
  refine vq_det (det_move rfl) rfl ?_
  refine vq_det (det_nilCheck rfl) rfl ?_
  refine vq_det (det_fieldAddr_ Try.underlying103 rfl (by kernel_rfl) rfl rfl) rfl ?_
  refine vq_det (det_load_blk (by kernel_rfl) rfl (by repeat (first | exact .hd | apply Sel.tl)) rfl) rfl ?_
  refine vq_det (det_move rfl) rfl ?_
  refine vq_det (det_indexAddr (size := 1) Try.underlying101 (by kernel_rfl) rfl rfl rfl (by omega) (by first | (exact Bor.own (by repeat (first | exact List.Mem.head _ | apply List.Mem.tail))) | (repeat (first | assumption | apply Bor.cons)))) rfl ?_
  refine vq_det (det_load_row (by kernel_rfl) rfl (by first | (exact Bor.own (by repeat (first | exact List.Mem.head _ | apply List.Mem.tail))) | (repeat (first | assumption | apply Bor.cons))) (by omega) hL) rfl ?_
  refine vq_det (det_conv Try.underlying47 Try.underlying3 rfl (w_i64 (by omega) (by omega))) rfl ?_
  refine vq_det (det_or rfl rfl (orP hp (by omega))) rfl ?_
  refine vq_det (det_assign rfl) rfl ?_
  refine vq_end [(4, _)] ⟨rfl, trivial⟩ ?_
  refine then_next ?_
  refine vc_ret ?_
  refine ret1 rfl rfl ?_
  exact ⟨rfl, rfl⟩
end Go.Proofs.Ytpamjobiohbibaa
namespace Go.Proofs.Ytpamjobiohbibaa
/-- a number at the head of bytes: its value, how many bytes it has, or the error; i bytes were seen, acc is their value -/
def scanFrom : Nat → Nat → List UInt8 → Nat × Nat × Int
  | _, _, [] => (0, 0, 1)
  | i, acc, c :: r =>
    if i = 9 ∧ c.toNat ≠ 1 ∨ 0 < i ∧ c.toNat = 0 then (0, 0, 2)
    else if c.toNat < 128 then (acc + c.toNat % 128 * 128 ^ i, i + 1, 0)
    else scanFrom (i + 1) (acc + c.toNat % 128 * 128 ^ i) r
def scanS (l : List UInt8) : Nat × Nat × Int := scanFrom 0 0 l
/-- .. at most 'most' -/
def limS (l : List UInt8) (most : Int) : Nat × Nat × Int :=
  if (scanS l).2.2 ≠ 0 then (0, 0, (scanS l).2.2)
  else if most < 0 ∨ most < (scanS l).1 then (0, 0, 6)
  else ((scanS l).1, (scanS l).2.1, 0)
/-- a cursor: all bytes, the place, the error -/
structure Cs where
  b : List UInt8
  at_ : Nat
  e : Int
def Cs.rest (s : Cs) : List UInt8 := s.b.drop s.at_
def Cs.left (s : Cs) : Nat := s.b.length - s.at_
def Cs.failed (s : Cs) (e : Int) : Cs := if s.e = 0 then { s with e := e } else s
def Cs.moved (s : Cs) (n : Nat) (e : Int) : Cs := if s.e ≠ 0 then s else if e ≠ 0 then { s with e := e } else { s with at_ := s.at_ + n }
def Cs.num (s : Cs) : Nat := if s.e ≠ 0 then 0 else (scanS s.rest).1
def Cs.num' (s : Cs) : Cs := s.moved (scanS s.rest).2.1 (scanS s.rest).2.2
def Cs.int (s : Cs) (most : Int) : Nat := if s.e ≠ 0 then 0 else (limS s.rest most).1
def Cs.int' (s : Cs) (most : Int) : Cs := s.moved (limS s.rest most).2.1 (limS s.rest most).2.2
def takeErr (l : List UInt8) (n : Int) : Int := if n < 0 then 13 else if (l.length : Int) < n then 1 else 0
def Cs.take (s : Cs) (n : Int) : List UInt8 := if s.e ≠ 0 then [] else if takeErr s.rest n ≠ 0 then [] else s.rest.take n.toNat
def Cs.take' (s : Cs) (n : Int) : Cs := s.moved n.toNat (takeErr s.rest n)
def Cs.byte (s : Cs) : UInt8 := ((s.take 1).head?).getD 0
def Cs.byte' (s : Cs) : Cs := s.take' 1
/-- a fixed number's value -/
def leVal : List UInt8 → Nat
  | [] => 0
  | c :: r => c.toNat + 256 * leVal r
def Cs.fixed (s : Cs) (n : Int) : Nat := if n < 1 ∨ 8 < n then 0 else leVal (s.take n)
def Cs.fixed' (s : Cs) (n : Int) : Cs := if n < 1 ∨ 8 < n then s.failed 13 else s.take' n
/-- a text: its bytes, how many bytes are taken, or the error -/
def textS (l : List UInt8) (most : Int) : List UInt8 × Nat × Int :=
  if (limS l most).2.2 ≠ 0 then ([], 0, (limS l most).2.2)
  else if l.length - (limS l most).2.1 < (limS l most).1 then ([], 0, 1)
  else ((l.drop (limS l most).2.1).take (limS l most).1, (limS l most).2.1 + (limS l most).1, 0)
def Cs.text (s : Cs) (most : Int) : List UInt8 := if s.e ≠ 0 then [] else (textS s.rest most).1
def Cs.text' (s : Cs) (most : Int) : Cs := s.moved (textS s.rest most).2.1 (textS s.rest most).2.2
def Cs.end' (s : Cs) : Cs := if 0 < s.left then s.failed 2 else s

theorem scanFrom_facts : ∀ (l : List UInt8) (i acc : Nat), i ≤ 9 → acc < 128 ^ i →
    (scanFrom i acc l).1 < 18446744073709551616 ∧ (scanFrom i acc l).2.1 ≤ i + l.length ∧ 0 ≤ (scanFrom i acc l).2.2 ∧ (scanFrom i acc l).2.2 ≤ 2 := by
  intro l
  induction l with
  | nil => intro i acc _ _; simp [scanFrom]
  | cons c r ih =>
    intro i acc hi ha
    unfold scanFrom
    have hp : 128 ^ (i + 1) = 128 ^ i * 128 := Nat.pow_succ ..
    by_cases h1 : i = 9 ∧ c.toNat ≠ 1 ∨ 0 < i ∧ c.toNat = 0
    · rw [if_pos h1]; simp
    · rw [if_neg h1]
      have hstep : acc + c.toNat % 128 * 128 ^ i < 128 ^ (i + 1) := by
        have : c.toNat % 128 * 128 ^ i ≤ 127 * 128 ^ i := Nat.mul_le_mul_right _ (by omega)
        omega
      by_cases h2 : c.toNat < 128
      · rw [if_pos h2]
        refine ⟨?_, by simp only [List.length_cons]; omega, by simp, by simp⟩
        show acc + c.toNat % 128 * 128 ^ i < _
        rcases Nat.lt_or_ge i 9 with h9 | h9
        · have : 128 ^ (i + 1) ≤ 128 ^ 9 := Nat.pow_le_pow_right (by omega) (by omega)
          have e9 : (128 : Nat) ^ 9 = 9223372036854775808 := by decide +kernel
          omega
        · have h9' : i = 9 := by omega
          subst h9'
          have hc : c.toNat = 1 := by omega
          have e9 : (128 : Nat) ^ 9 = 9223372036854775808 := by decide +kernel
          have ha' : acc < 9223372036854775808 := Nat.lt_of_lt_of_eq ha e9
          rw [hc, e9]
          clear hp hstep ha e9
          omega
      · rw [if_neg h2]
        have h9 : i < 9 := by
          rcases Nat.lt_or_ge i 9 with h9 | h9
          · exact h9
          · exfalso; omega
        obtain ⟨a, b, c', d⟩ := ih (i + 1) _ (by omega) hstep
        exact ⟨a, by simp at b ⊢; omega, c', d⟩
theorem scanS_facts (l : List UInt8) : (scanS l).1 < 18446744073709551616 ∧ (scanS l).2.1 ≤ l.length ∧ 0 ≤ (scanS l).2.2 ∧ (scanS l).2.2 ≤ 2 := by
  have := scanFrom_facts l 0 0 (by omega) (by simp)
  simpa [scanS] using this
theorem limS_facts (l : List UInt8) (most : Int) (hm : most ≤ 9223372036854775807) :
    (limS l most).1 ≤ 9223372036854775807 ∧ (limS l most).2.1 ≤ l.length ∧ 0 ≤ (limS l most).2.2 ∧ ((limS l most).2.2 = 0 → ((limS l most).1 : Int) ≤ most) := by
  have h := scanS_facts l
  unfold limS
  split
  · exact ⟨by simp, by simp, h.2.2.1, fun h0 => by rename_i hne; exact absurd h0 hne⟩
  · split
    · exact ⟨by simp, by simp, by simp, by simp⟩
    · rename_i h2
      exact ⟨by simp only; omega, h.2.1, by simp, fun _ => by simp only; omega⟩
end Go.Proofs.Ytpamjobiohbibaa
