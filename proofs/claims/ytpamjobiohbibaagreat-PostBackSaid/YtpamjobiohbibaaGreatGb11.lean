/-
  Texts of one proof, joined: part 11. No condition.
-/
import Derived.Test.YtpamjobiohbibaaGreatGb10
namespace Go.Proofs.YtpamjobiohbibaaGreat
open Go.RowKit
set_option linter.unusedVariables false
set_option maxRecDepth 20000
variable {B : Nat} {w0 : World} {F : List Ch} {A A1 A2 : Option Addr} {n c c1 c2 g : Nat} {bound size : Int}
/-- ef.Read, with its pieces ahead of those that there were -/
theorem efread_x {b : List UInt8} (hb : Bor B w0 F 1 (.slice A b.length c) b.length (bv b)) (hbl : b.length ≤ 100000) (hbd1 : -9223372036854775808 ≤ bound) (hbd2 : bound ≤ 9223372036854775807) :
    Does Tryz.prog B w0 43 [.int .i64 bound, .slice A b.length c] F (fun r L => ∃ p X, r = .tuple #[.pointer p, .int .i64 (efRd bound b).2.1, .int .i64 (efRd bound b).2.2] ∧ L = X ++ F ∧
      ((efRd bound b).2.2 ≠ 0 → X = []) ∧ ((efRd bound b).2.2 = 0 → ∃ w pp g A1 c1 A2 c2, p = some ⟨g, 0, none⟩ ∧ pp = 2 ^ w ∧ w ≤ 14 ∧ X ++ F = Rl g w pp A1 c1 A2 c2 (efRd bound b).1 F)) :=
  (efread_d hb hbl hbd1 hbd2).mono fun r L h => by
    rcases h with ⟨h, h1, h2⟩ | ⟨h, w, pp, g, A1, c1, A2, c2, h1, h2, h3, h4⟩
    · have e : (efRd bound b).2.1 = 0 := by
        unfold efRd at h ⊢
        split
        · rfl
        · split
          · rfl
          · split
            · rename_i q1 q2 q3
              rw [if_neg q1, if_neg q2, if_pos q3] at h
              exact absurd rfl h
            · split
              · rfl
              · rename_i q1 q2 q3 q4
                rw [if_neg q1, if_neg q2, if_neg q3, if_neg q4] at h
                exact absurd rfl h
      exact ⟨none, [], by rw [h1, e]; rfl, h2, fun _ => rfl, fun q => absurd q h⟩
    · exact ⟨some ⟨g, 0, none⟩, Rl g w pp A1 c1 A2 c2 (efRd bound b).1 [], by rw [h3, h], h4, fun q => absurd h q, fun _ => ⟨w, pp, g, A1, c1, A2, c2, rfl, h1, h2, rfl⟩⟩
theorem efRd_le {b : List UInt8} (h : (efRd bound b).2.2 = 0) (hbd : bound ≤ 9223372036854775807) : (efRd bound b).2.1 ≤ b.length ∧ (efRd bound b).1.length ≤ 20000 ∧ ∀ i, i < (efRd bound b).1.length → (efRd bound b).1.getD i 0 ≤ 1000000 := by
  obtain ⟨bn, rfl, h2, h3, _, h5⟩ := efRd_one hbd h
  exact ⟨h5, Nat.le_trans h3.len h2, h3.le h2⟩
theorem wk_lst {t : TypeId} {A8 : Option Addr} {c8 m : Nat} {vs : List Value} {e : Lst} {O : List Lst} (hm : m = O.length + 1) (hv : vs = O.map lVal ++ [lVal e]) : Wk (lRow e :: .own t 1 A8 m c8 vs :: (O.map lRow ++ F)) (.own t 1 A8 (O ++ [e]).length c8 ((O ++ [e]).map lVal) :: ((O ++ [e]).map lRow ++ F)) := by
  subst hm
  subst hv
  refine .swap (wk_own (by simp) (by simp) (.of_perm ?_))
  rw [List.map_append, List.append_assoc]
  exact List.perm_middle.symm
theorem perm4 {a b c d : Ch} {R : List Ch} (X : List Ch) : (X ++ a :: b :: c :: d :: R).Perm (a :: b :: c :: d :: (X ++ R)) :=
  List.perm_middle.trans ((List.perm_middle.trans ((List.perm_middle.trans (List.perm_middle.cons c)).cons b)).cons a)
def ListsQ (bound : Int) (n : Nat) (b : List UInt8) (F : List Ch) (r : Value) (L : List Ch) : Prop :=
  ∃ (A1 : Option Addr) (c1 m : Nat) (X : List Ch), r = .tuple #[.slice A1 m c1, .int .i64 (lsR bound n b []).2] ∧ L = X ++ F ∧ ((lsR bound n b []).2 ≠ 0 → A1 = none ∧ c1 = 0 ∧ m = 0 ∧ X = []) ∧
    ((lsR bound n b []).2 = 0 → ∃ LL : List Lst, LL.map (·.2.2) = (lsR bound n b []).1 ∧ m = LL.length ∧ LL.length = n ∧ X = .own 42 1 A1 LL.length c1 (LL.map lVal) :: LL.map lRow)
theorem lists_d {b : List UInt8} {n : Nat} (hb : Bor B w0 F 1 (.slice A b.length c) b.length (bv b)) (hbl : b.length ≤ 100000) (hn : n ≤ 2000000) (hbd1 : -9223372036854775808 ≤ bound) (hbd2 : bound ≤ 9223372036854775807) :
    Does Tryz.prog B w0 16 [.int .i64 n, .int .i64 bound, .slice A b.length c] F (ListsQ bound n b F) := by
  obtain ⟨G, hG⟩ : ∃ G, G = lsR bound n b [] := ⟨_, rfl⟩
  unfold ListsQ
  rw [← hG]
  refine fn_walk Tryz.func16 43 rfl rfl rfl [(0, .int .i64 n), (1, .int .i64 bound), (2, .slice A b.length c)] ⟨⟨rfl, rfl⟩, ⟨rfl, rfl⟩, ⟨rfl, rfl⟩, trivial⟩ ?_
  refine vc_seq ?_
  refine vc_region ?_
  refine vl_det (det_assign rfl) rfl ?_
  refine vl_det (det_assign rfl) rfl ?_
  refine vl_end [(0, _), (1, _), (2, _)] ⟨rfl, rfl, rfl, trivial⟩ ?_
  refine then_next ?_
  refine vc_seq ?_
  refine vc_region ?_
  refine vl_det (det_assign rfl) rfl ?_
  refine vl_end [(0, _), (1, _), (2, _), (8, _)] ⟨rfl, rfl, rfl, rfl, trivial⟩ ?_
  refine then_next ?_
  refine vc_seq ?_
  refine vc_seq ?_
  refine vc_nil_row 42 1 none ?_
  refine vc_region ?_
  refine vl_det (det_move rfl) rfl ?_
  refine vl_det (det_move rfl) rfl ?_
  refine vl_end [(1, _), (2, _), (8, _), (12, _), (13, _)] ⟨rfl, rfl, rfl, rfl, rfl, trivial⟩ ?_
  refine then_next ?_
  refine vc_block ?_
  refine vc_loopJ (fun zf zL zm => ∃ (k : Nat) (Ab : Option Addr) (cb : Nat) (r : List UInt8) (O : List Lst) (A8 : Option Addr) (c8 : Nat), (k ≤ n ∧ O.length = k ∧ lsR bound (n - k) r (O.map (·.2.2)) = G ∧ Bor B w0 F 1 (.slice Ab r.length cb) r.length (bv r) ∧ r.length ≤ b.length) ∧ n - k = zm ∧ Sub zf [(1, .int .i64 bound), (2, .slice Ab r.length cb), (8, .slice A8 O.length c8), (12, .int .i64 n), (13, .int .i64 k)] ∧ Wk zL (.own 42 1 A8 O.length c8 (O.map lVal) :: (O.map lRow ++ F))) _ ⟨0, A, c, b, [], none, 0, ⟨Nat.zero_le _, rfl, hG.symm, hb, Nat.le_refl _⟩, rfl, ⟨(by first | rfl | exact int_to (by omega) | exact sl_to (by omega)), (by first | rfl | exact int_to (by omega) | exact sl_to (by omega)), (by first | rfl | exact int_to (by omega) | exact sl_to (by omega)), (by first | rfl | exact int_to (by omega) | exact sl_to (by omega)), (by first | rfl | exact int_to (by omega) | exact sl_to (by omega)), trivial⟩, .refl _⟩ ?_
  rintro _ _ _ ⟨k, Ab, cb, r, O, A8, c8, ⟨hk, hO, hR, hbr, hrl⟩, rfl, hs, hp⟩
  refine vc_weaken _ hs (vc_wk hp ?_)
  clear hs hp
  refine vc_seq ?_
  refine vc_region ?_
  refine vl_det (det_lss rfl rfl) rfl ?_
  refine vl_end [(1, _), (2, _), (8, _), (12, _), (13, _), (14, _)] ⟨rfl, rfl, rfl, rfl, rfl, rfl, trivial⟩ ?_
  refine then_next ?_
  refine vc_seq ?_
  refine vc_decideU rfl (fun h14 => ?_) (fun h14 => ?_)
  · skip
    obtain ⟨j, hj⟩ : ∃ j, n - k = j + 1 := ⟨n - k - 1, by omega⟩
    rw [hj, lsR] at hR
    have hbr2 : Bor B w0 (O.map lRow ++ F) 1 (.slice Ab r.length cb) r.length (bv r) := hbr.mono (List.sublist_append_right _ F)
    refine vc_skip ?_
    refine then_next ?_
    refine vc_seq ?_
    refine vc_block ?_
    refine vc_seq ?_
    refine vc_region ?_
    refine vl_det (det_move rfl) rfl ?_
    refine vl_det (det_move rfl) rfl ?_
    refine vl_call co43 rfl (efread_x (by first | (exact Bor.own (by repeat (first | exact List.Mem.head _ | apply List.Mem.tail))) | (repeat (first | assumption | apply Bor.cons))) (by omega) hbd1 hbd2) rfl ?_
    rintro _ _ ⟨p18, X18, rfl, hLL, hX1, hX2⟩
    obtain rfl := hLL.symm
    refine vl_det (det_move rfl) rfl ?_
    refine vl_det (det_extract rfl rfl) rfl ?_
    refine vl_det (det_extract rfl rfl) rfl ?_
    refine vl_det (det_extract rfl rfl) rfl ?_
    refine vl_det (det_assign rfl) rfl ?_
    refine vl_det (det_assign rfl) rfl ?_
    refine vl_det (det_assign rfl) rfl ?_
    refine vl_end [(1, _), (2, _), (8, _), (9, _), (10, _), (11, _), (12, _), (13, _)] ⟨rfl, rfl, rfl, rfl, rfl, rfl, rfl, rfl, trivial⟩ ?_
    refine then_next ?_
    refine vc_seq ?_
    refine vc_block ?_
    refine vc_seq ?_
    refine vc_region ?_
    refine vl_det (det_move rfl) rfl ?_
    refine vl_det (det_neq rfl rfl) rfl ?_
    refine vl_det (det_assign rfl) rfl ?_
    refine vl_end [(1, _), (2, _), (8, _), (9, _), (10, _), (11, _), (12, _), (13, _), (22, _)] ⟨rfl, rfl, rfl, rfl, rfl, rfl, rfl, rfl, rfl, trivial⟩ ?_
    refine then_next ?_
    refine vc_decideU rfl (fun h22 => ?_) (fun h22 => ?_)
    · skip
      have h22' : (efRd bound r).2.2 ≠ 0 := by simpa using h22
      rw [if_pos h22'] at hR
      refine vc_seq ?_
      refine vc_region ?_
      refine vl_det (det_move rfl) rfl ?_
      refine vl_det (det_assign rfl) rfl ?_
      refine vl_det (det_assign rfl) rfl ?_
      refine vl_end [(6, _), (7, _)] ⟨rfl, rfl, trivial⟩ ?_
      refine then_next ?_
      refine vc_ret ?_
      refine in_ret ?_
      refine then_ret ?_
      refine in_ret ?_
      refine then_ret ?_
      refine loop_ret ?_
      refine in_ret ?_
      refine then_ret ?_
      rw [hX1 h22']
      refine ret_wk (L' := F) (.skip (wk_rows (.refl _) _)) ?_
      refine ret2 rfl rfl rfl ?_
      exact ⟨none, 0, 0, [], by rw [← hR], rfl, fun _ => ⟨rfl, rfl, rfl, rfl⟩, fun q => by rw [← hR] at q; exact absurd q h22'⟩
    · skip
      have h22' : (efRd bound r).2.2 = 0 := by simpa using h22
      rw [if_neg (by simpa using h22')] at hR
      obtain ⟨lw, lp, g18, P1, p1, P2, p2, rfl, hlp, hlw, hX⟩ := hX2 h22'
      rw [hX]
      obtain ⟨hle1, hle2, hle3⟩ := efRd_le h22' hbd2
      clear hX hX1 hX2
      obtain ⟨xs, hxs⟩ : ∃ xs, xs = (efRd bound r).1 := ⟨_, rfl⟩
      obtain ⟨t, ht⟩ : ∃ t, t = (efRd bound r).2.1 := ⟨_, rfl⟩
      rw [← hxs] at hle2 hle3 hR ⊢
      rw [← ht] at hle1 hR ⊢
      refine vc_seq ?_
      refine vc_region ?_
      refine vl_det (det_move rfl) rfl ?_
      refine vl_call co44 rfl (llen_d) rfl ?_
      rintro _ _ ⟨rfl, hLL⟩
      obtain rfl := hLL.symm
      refine vl_det (det_eql rfl rfl) rfl ?_
      refine vl_det (det_assign rfl) rfl ?_
      refine vl_end [(1, _), (2, _), (8, _), (9, _), (10, _), (12, _), (13, _), (26, _)] ⟨rfl, rfl, rfl, rfl, rfl, rfl, rfl, rfl, trivial⟩ ?_
      refine then_next ?_
      refine vc_decideU rfl (fun h26 => ?_) (fun h26 => ?_)
      · skip
        rw [if_pos (by omega)] at hR
        refine vc_seq ?_
        refine vc_region ?_
        refine vl_det (det_assign rfl) rfl ?_
        refine vl_det (det_assign rfl) rfl ?_
        refine vl_end [(6, _), (7, _)] ⟨rfl, rfl, trivial⟩ ?_
        refine then_next ?_
        refine vc_ret ?_
        refine in_ret ?_
        refine then_ret ?_
        refine in_ret ?_
        refine then_ret ?_
        refine loop_ret ?_
        refine in_ret ?_
        refine then_ret ?_
        refine ret_wk (L' := F) (.skip (.skip (.skip (.skip (wk_rows (.refl _) _))))) ?_
        refine ret2 rfl rfl rfl ?_
        exact ⟨none, 0, 0, [], by rw [← hR], rfl, fun _ => ⟨rfl, rfl, rfl, rfl⟩, fun q => by rw [← hR] at q; exact absurd q (by decide)⟩
      · skip
        rw [if_neg (by omega)] at hR
        refine vc_skip ?_
        refine in_normal ?_
        refine then_next ?_
        refine vc_seq ?_
        refine vc_region ?_
        refine vl_det (det_move rfl) rfl ?_
        refine vl_det (det_move rfl) rfl ?_
        refine vl_call co45 rfl (lall_d hlp hlw hle3 (by omega)) rfl ?_
        rintro _ _ ⟨A32, c32, rfl, hLL⟩
        obtain rfl := hLL.symm
        refine vl_push slT23 rfl rfl rfl rfl rfl (fun _ => rfl) (by repeat (first | exact .hd | apply Sel.tl)) (by omega) (by omega) ?_
        intro _ A34 c34
        refine vl_det (det_assign rfl) rfl ?_
        refine vl_end [(1, _), (2, _), (8, _), (10, _), (12, _), (13, _)] ⟨rfl, rfl, rfl, rfl, rfl, rfl, trivial⟩ ?_
        refine then_next ?_
        refine vc_region ?_
        refine vl_det (det_move rfl) rfl ?_
        refine vl_det (det_move rfl) rfl ?_
        refine vl_det (det_slice_lo (i := t) (size := 1) Tryz.underlying26 (by kernel_rfl) rfl rfl rfl hle1) rfl ?_
        rw [show r.length - t = (r.drop t).length from (List.length_drop ..).symm]
        refine vl_det (det_assign rfl) rfl ?_
        refine vl_end [(1, _), (2, _), (8, _), (12, _), (13, _)] ⟨rfl, rfl, rfl, rfl, rfl, trivial⟩ ?_
        refine in_normal ?_
        refine then_next ?_
        refine vc_region ?_
        refine vl_det (det_add rfl rfl (w_i64 (by omega) (by omega))) rfl ?_
        refine vl_det (det_move rfl) rfl ?_
        refine vl_end [(1, _), (2, _), (8, _), (12, _), (13, _)] ⟨rfl, rfl, rfl, rfl, rfl, trivial⟩ ?_
        have hel : O.length + 1 = (O ++ [(A32, c32, xs)]).length := by simp
        refine in_loop_ ⟨_, by omega, k + 1, _, _, r.drop t, O ++ [(A32, c32, xs)], A34, c34, ⟨by omega, by simp [hO], by rw [show n - (k + 1) = j by omega]; simpa using hR, by have := hbr.cut hle1; rwa [show (bv r).drop (t * 1) = bv (r.drop t) by rw [Nat.mul_one, bv_drop], show r.length - t = (r.drop t).length from (List.length_drop ..).symm] at this, by rw [List.length_drop]; omega⟩, rfl, ⟨(by first | rfl | exact int_to (by omega) | exact sl_to (by omega)), (by first | rfl | exact int_to (by omega) | exact sl_to (by omega)), (by first | rfl | exact int_to (by omega) | exact sl_to (by omega)), (by first | rfl | exact int_to (by omega) | exact sl_to (by omega)), (by first | rfl | exact int_to (by omega) | exact sl_to (by omega)), trivial⟩, .skip (.skip (.skip (wk_lst (e := (A32, c32, xs)) (O := O) rfl rfl)))⟩
  · skip
    rw [show n - k = 0 by omega, lsR] at hR
    refine vc_exit ?_
    refine then_exit ?_
    refine loop_exit ?_
    refine in_eq ?_
    refine then_next ?_
    refine vc_seq ?_
    refine vc_seq ?_
    refine vc_region ?_
    refine vl_det (det_move rfl) rfl ?_
    refine vl_det (det_len_sl Tryz.underlying26 rfl) rfl ?_
    refine vl_det (det_gtr rfl rfl) rfl ?_
    refine vl_end [(8, _), (41, _)] ⟨rfl, rfl, trivial⟩ ?_
    refine then_next ?_
    refine vc_decideU rfl (fun h41 => ?_) (fun h41 => ?_)
    · skip
      refine vc_seq ?_
      refine vc_region ?_
      refine vl_det (det_assign rfl) rfl ?_
      refine vl_det (det_assign rfl) rfl ?_
      refine vl_end [(6, _), (7, _)] ⟨rfl, rfl, trivial⟩ ?_
      refine then_next ?_
      refine vc_ret ?_
      refine then_ret ?_
      refine ret_wk (L' := F) (.skip (wk_rows (.refl _) _)) ?_
      refine ret2 rfl rfl rfl ?_
      rw [if_pos (by omega)] at hR
      exact ⟨none, 0, 0, [], by rw [← hR], rfl, fun _ => ⟨rfl, rfl, rfl, rfl⟩, fun q => by rw [← hR] at q; exact absurd q (by decide)⟩
    · skip
      refine vc_skip ?_
      refine then_next ?_
      refine vc_seq ?_
      refine vc_region ?_
      refine vl_det (det_move rfl) rfl ?_
      refine vl_det (det_assign rfl) rfl ?_
      refine vl_det (det_assign rfl) rfl ?_
      refine vl_end [(6, _), (7, _)] ⟨rfl, rfl, trivial⟩ ?_
      refine then_next ?_
      refine vc_ret ?_
      refine ret2 rfl rfl rfl ?_
      rw [if_neg (by omega)] at hR
      exact ⟨A8, c8, O.length, .own 42 1 A8 O.length c8 (O.map lVal) :: O.map lRow, by rw [← hR], rfl, fun q => by rw [← hR] at q; exact absurd rfl q, fun _ => ⟨O, by rw [← hR], rfl, by omega, rfl⟩⟩
/-- an index that was read: its texts, lists, error -/
def IdxQ (d : List Txt × List (List Nat) × Int) (F : List Ch) (r : Value) (L : List Ch) : Prop :=
  ∃ (A1 : Option Addr) (c1 : Nat) (A2 : Option Addr) (c2 : Nat) (LL : List Lst), r = .tuple #[IdxA A1 d.1.length c1 A2 LL.length c2, .int .i64 d.2.2] ∧ LL.map (·.2.2) = d.2.1 ∧
    L = .own 9 1 A1 d.1.length c1 (strs d.1) :: .own 42 1 A2 LL.length c2 (LL.map lVal) :: (LL.map lRow ++ F)
theorem idxQ_err {e : Int} {r : Value} (h : r = .tuple #[IdxA none 0 0 none 0 0, .int .i64 e]) : IdxQ ([], [], e) F r (.own 9 1 none 0 0 [] :: .own 42 1 none 0 0 [] :: F) := ⟨none, 0, none, 0, [], h, rfl, rfl⟩
theorem pread_1 {b : List UInt8} (hE : bound < 0 ∨ 20000 < bound) : Does Tryz.prog B w0 7 [.int .i64 size, .int .i64 bound, .slice A b.length c] F (IdxQ (idxRd size bound b) F) := by
  rw [idxRd_a hE]
  refine fn_walk Tryz.func7 48 rfl rfl rfl [(0, .int .i64 size), (1, .int .i64 bound), (2, .slice A b.length c)] ⟨⟨rfl, rfl⟩, ⟨rfl, rfl⟩, ⟨rfl, rfl⟩, trivial⟩ ?_
  refine vc_seq ?_
  refine vc_region ?_
  refine vl_eff (eff_alloc_z (zv := (.agg #[.slice none 0 0, .slice none 0 0])) (by kernel_rfl) rfl) rfl ?_
  rintro _ _ ⟨g6, rfl, rfl⟩
  refine vl_det (det_assign rfl) rfl ?_
  refine vl_end [(0, _), (1, _), (2, _), (6, _)] ⟨rfl, rfl, rfl, rfl, trivial⟩ ?_
  refine then_next ?_
  refine vc_seq ?_
  refine vc_seq ?_
  refine vc_region ?_
  refine vl_cut 6 17 [(0, _), (1, _), (2, _), (6, _)] (bound < 0 ∨ 20000 < bound) ⟨rfl, rfl, rfl, rfl, trivial⟩ ?_ ?_
  · skip
    refine vl_det (det_move rfl) rfl ?_
    refine vl_det (det_lss rfl rfl) rfl ?_
    refine vl_det (det_move rfl) rfl ?_
    refine vl_guardn rfl rfl rfl (fun h14 => ?_) (fun h14 => ?_)
    · skip
      refine vl_det (det_move rfl) rfl ?_
      refine vl_guard_t rfl rfl ?_
      refine vl_det (det_gtr rfl rfl) rfl ?_
      refine vl_det (det_pick_f rfl rfl) rfl ?_
      exact vl_cut_end ⟨rfl, rfl, rfl, rfl, trivial⟩ (by first | rfl | exact bool_to_t (by first | omega | simp_all) | exact bool_to_f (by first | omega | simp_all) | exact bool_to (by first | omega | simp_all) | exact bool_to_b (by first | omega | simp_all))
    · skip
      refine vl_guard_f rfl rfl rfl rfl ?_
      refine vl_det (det_pick_t rfl rfl) rfl ?_
      exact vl_cut_end ⟨rfl, rfl, rfl, rfl, trivial⟩ (by first | rfl | exact bool_to_t (by first | omega | simp_all) | exact bool_to_f (by first | omega | simp_all) | exact bool_to (by first | omega | simp_all) | exact bool_to_b (by first | omega | simp_all))
  · skip
    refine vl_end [(0, _), (1, _), (2, _), (6, _), (17, _)] ⟨rfl, rfl, rfl, rfl, rfl, trivial⟩ ?_
    refine then_next ?_
    refine vc_decideU rfl (fun h17 => ?_) (fun h17 => ?_)
    · skip
      refine vc_seq ?_
      refine vc_region ?_
      refine vl_det (det_build0 [.slice none 0 0, .slice none 0 0] (by kernel_rfl)) rfl ?_
      refine vl_eff0 (eff_store_whole 2 (by kernel_rfl) rfl rfl (by first | exact bv_one _ | exact strs_one _ | exact ints_one _ _ | (simp; done) | (simp [Value.oneCell']; done) | assumption) (by repeat (first | exact .hd | apply Sel.tl)) (by first | rfl | (simp; omega) | (simp [*]; done)) (by first | rfl | (simp; omega) | (simp [*]; done))) ?_
      rintro _ _ rfl
      refine vl_det (det_assign rfl) rfl ?_
      refine vl_end [(6, _), (7, _)] ⟨rfl, rfl, trivial⟩ ?_
      refine then_next ?_
      refine vc_ret ?_
      refine then_ret ?_
      refine ret_nil_row 42 1 none ?_
      refine ret_nil_row 9 1 none ?_
      refine ret_ct rfl rfl (by kernel_rfl) (by repeat (first | exact .hd | apply Sel.tl)) (by first | rfl | (simp; omega) | (simp [*]; done)) rfl (.cons (.cons (.skip (.refl _)))) ?_
      exact idxQ_err rfl
    · skip
      exfalso; exact h17 hE
theorem pread_2 {b : List UInt8} (hE : ¬ (bound < 0 ∨ 20000 < bound)) (hb : Bor B w0 F 1 (.slice A b.length c) b.length (bv b)) (hbl : b.length ≤ 1000000000) (he : (dictR size b).2.2 ≠ 0) :
    Does Tryz.prog B w0 7 [.int .i64 size, .int .i64 bound, .slice A b.length c] F (IdxQ (idxRd size bound b) F) := by
  rw [idxRd_b hE he]
  refine fn_walk Tryz.func7 48 rfl rfl rfl [(0, .int .i64 size), (1, .int .i64 bound), (2, .slice A b.length c)] ⟨⟨rfl, rfl⟩, ⟨rfl, rfl⟩, ⟨rfl, rfl⟩, trivial⟩ ?_
  refine vc_seq ?_
  refine vc_region ?_
  refine vl_eff (eff_alloc_z (zv := (.agg #[.slice none 0 0, .slice none 0 0])) (by kernel_rfl) rfl) rfl ?_
  rintro _ _ ⟨g6, rfl, rfl⟩
  refine vl_det (det_assign rfl) rfl ?_
  refine vl_end [(0, _), (1, _), (2, _), (6, _)] ⟨rfl, rfl, rfl, rfl, trivial⟩ ?_
  refine then_next ?_
  refine vc_seq ?_
  refine vc_seq ?_
  refine vc_region ?_
  refine vl_cut 6 17 [(0, _), (1, _), (2, _), (6, _)] (bound < 0 ∨ 20000 < bound) ⟨rfl, rfl, rfl, rfl, trivial⟩ ?_ ?_
  · skip
    refine vl_det (det_move rfl) rfl ?_
    refine vl_det (det_lss rfl rfl) rfl ?_
    refine vl_det (det_move rfl) rfl ?_
    refine vl_guardn rfl rfl rfl (fun h14 => ?_) (fun h14 => ?_)
    · skip
      refine vl_det (det_move rfl) rfl ?_
      refine vl_guard_t rfl rfl ?_
      refine vl_det (det_gtr rfl rfl) rfl ?_
      refine vl_det (det_pick_f rfl rfl) rfl ?_
      exact vl_cut_end ⟨rfl, rfl, rfl, rfl, trivial⟩ (by first | rfl | exact bool_to_t (by first | omega | simp_all) | exact bool_to_f (by first | omega | simp_all) | exact bool_to (by first | omega | simp_all) | exact bool_to_b (by first | omega | simp_all))
    · skip
      refine vl_guard_f rfl rfl rfl rfl ?_
      refine vl_det (det_pick_t rfl rfl) rfl ?_
      exact vl_cut_end ⟨rfl, rfl, rfl, rfl, trivial⟩ (by first | rfl | exact bool_to_t (by first | omega | simp_all) | exact bool_to_f (by first | omega | simp_all) | exact bool_to (by first | omega | simp_all) | exact bool_to_b (by first | omega | simp_all))
  · skip
    refine vl_end [(0, _), (1, _), (2, _), (6, _), (17, _)] ⟨rfl, rfl, rfl, rfl, rfl, trivial⟩ ?_
    refine then_next ?_
    refine vc_decideU rfl (fun h17 => ?_) (fun h17 => ?_)
    · skip
      exfalso; exact hE h17
    · skip
      refine vc_skip ?_
      refine then_next ?_
      refine vc_seq ?_
      refine vc_region ?_
      refine vl_det (det_move rfl) rfl ?_
      refine vl_det (det_move rfl) rfl ?_
      refine vl_call co15 rfl (dread_err (by first | (exact Bor.own (by repeat (first | exact List.Mem.head _ | apply List.Mem.tail))) | (repeat (first | assumption | apply Bor.cons))) (by omega) he) rfl ?_
      rintro _ _ ⟨rfl, hLL⟩
      obtain rfl := hLL.symm
      refine vl_det (det_move rfl) rfl ?_
      refine vl_det (det_extract rfl rfl) rfl ?_
      refine vl_det (det_extract rfl rfl) rfl ?_
      refine vl_det (det_extract rfl rfl) rfl ?_
      refine vl_det (det_assign rfl) rfl ?_
      refine vl_det (det_assign rfl) rfl ?_
      refine vl_det (det_assign rfl) rfl ?_
      refine vl_end [(1, _), (2, _), (6, _), (8, _), (9, _), (10, _)] ⟨rfl, rfl, rfl, rfl, rfl, rfl, trivial⟩ ?_
      refine then_next ?_
      refine vc_seq ?_
      refine vc_seq ?_
      refine vc_region ?_
      refine vl_det (det_move rfl) rfl ?_
      refine vl_det (det_neq rfl rfl) rfl ?_
      refine vl_end [(1, _), (2, _), (6, _), (8, _), (9, _), (10, _), (27, _)] ⟨rfl, rfl, rfl, rfl, rfl, rfl, rfl, trivial⟩ ?_
      refine then_next ?_
      refine vc_decideU rfl (fun h27 => ?_) (fun h27 => ?_)
      · skip
        refine vc_seq ?_
        refine vc_region ?_
        refine vl_det (det_build0 [.slice none 0 0, .slice none 0 0] (by kernel_rfl)) rfl ?_
        refine vl_det (det_move rfl) rfl ?_
        refine vl_eff0 (eff_store_whole 2 (by kernel_rfl) rfl rfl (by first | exact bv_one _ | exact strs_one _ | exact ints_one _ _ | (simp; done) | (simp [Value.oneCell']; done) | assumption) (by repeat (first | exact .hd | apply Sel.tl)) (by first | rfl | (simp; omega) | (simp [*]; done)) (by first | rfl | (simp; omega) | (simp [*]; done))) ?_
        rintro _ _ rfl
        refine vl_det (det_assign rfl) rfl ?_
        refine vl_end [(6, _), (7, _)] ⟨rfl, rfl, trivial⟩ ?_
        refine then_next ?_
        refine vc_ret ?_
        refine then_ret ?_
        refine ret_nil_row 42 1 none ?_
        refine ret_nil_row 9 1 none ?_
        refine ret_ct rfl rfl (by kernel_rfl) (by repeat (first | exact .hd | apply Sel.tl)) (by first | rfl | (simp; omega) | (simp [*]; done)) rfl (.cons (.cons (.skip (.refl _)))) ?_
        exact idxQ_err rfl
      · skip
        exfalso; exact h27 he
theorem pread_3 {b : List UInt8} (hE : ¬ (bound < 0 ∨ 20000 < bound)) (hb : Bor B w0 F 1 (.slice A b.length c) b.length (bv b)) (hbl : b.length ≤ 1000000000) (hbr : (b.drop (dictR size b).2.1).length ≤ 100000) (he : (dictR size b).2.2 = 0) :
    Does Tryz.prog B w0 7 [.int .i64 size, .int .i64 bound, .slice A b.length c] F (IdxQ (idxRd size bound b) F) := by
  have q4 : ¬ (size < 1 ∨ 64 < size) := fun q => by rw [dictR_bad q] at he; exact absurd he (by decide)
  obtain ⟨sz, rfl⟩ := Int.eq_ofNat_of_zero_le (show 0 ≤ size by omega)
  obtain ⟨e1, e2, e3⟩ := dict_one (sz := sz) (by omega) (by omega) he
  have hR1 := @idxRd_c sz bound b hE he
  have hR2 := @idxRd_d sz bound b hE he
  have hIL : idxL sz bound b = lsR bound (dictR sz b).1.length (b.drop (dictR sz b).2.1) [] := rfl
  have hdr : dictR sz b = ((dictR sz b).1, (dictR sz b).2.1, 0) := Prod.ext rfl (Prod.ext rfl he)
  have hTl := e1.2
  have hcut := hb.cut e2
  rw [show (bv b).drop ((dictR sz b).2.1 * 1) = bv (b.drop (dictR sz b).2.1) by rw [Nat.mul_one, bv_drop], show b.length - (dictR sz b).2.1 = (b.drop (dictR sz b).2.1).length from (List.length_drop ..).symm] at hcut
  have hdl : (b.drop (dictR sz b).2.1).length ≤ b.length := by rw [List.length_drop]; omega
  obtain ⟨T, hT⟩ : ∃ T, T = (dictR sz b).1 := ⟨_, rfl⟩
  obtain ⟨t, ht⟩ : ∃ t, t = (dictR sz b).2.1 := ⟨_, rfl⟩
  rw [← hT] at e1 hR2 hIL hdr hTl
  rw [← ht] at e2 hIL hdr hcut hdl hbr
  obtain ⟨G, hG⟩ : ∃ G, G = idxL sz bound b := ⟨_, rfl⟩
  rw [← hG] at hR1 hR2 hIL
  clear hG e3
  refine fn_walk Tryz.func7 48 rfl rfl rfl [(0, .int .i64 sz), (1, .int .i64 bound), (2, .slice A b.length c)] ⟨⟨rfl, rfl⟩, ⟨rfl, rfl⟩, ⟨rfl, rfl⟩, trivial⟩ ?_
  refine vc_seq ?_
  refine vc_region ?_
  refine vl_eff (eff_alloc_z (zv := (.agg #[.slice none 0 0, .slice none 0 0])) (by kernel_rfl) rfl) rfl ?_
  rintro _ _ ⟨g6, rfl, rfl⟩
  refine vl_det (det_assign rfl) rfl ?_
  refine vl_end [(0, _), (1, _), (2, _), (6, _)] ⟨rfl, rfl, rfl, rfl, trivial⟩ ?_
  refine then_next ?_
  refine vc_seq ?_
  refine vc_seq ?_
  refine vc_region ?_
  refine vl_cut 6 17 [(0, _), (1, _), (2, _), (6, _)] (bound < 0 ∨ 20000 < bound) ⟨rfl, rfl, rfl, rfl, trivial⟩ ?_ ?_
  · skip
    refine vl_det (det_move rfl) rfl ?_
    refine vl_det (det_lss rfl rfl) rfl ?_
    refine vl_det (det_move rfl) rfl ?_
    refine vl_guardn rfl rfl rfl (fun h14 => ?_) (fun h14 => ?_)
    · skip
      refine vl_det (det_move rfl) rfl ?_
      refine vl_guard_t rfl rfl ?_
      refine vl_det (det_gtr rfl rfl) rfl ?_
      refine vl_det (det_pick_f rfl rfl) rfl ?_
      exact vl_cut_end ⟨rfl, rfl, rfl, rfl, trivial⟩ (by first | rfl | exact bool_to_t (by first | omega | simp_all) | exact bool_to_f (by first | omega | simp_all) | exact bool_to (by first | omega | simp_all) | exact bool_to_b (by first | omega | simp_all))
    · skip
      refine vl_guard_f rfl rfl rfl rfl ?_
      refine vl_det (det_pick_t rfl rfl) rfl ?_
      exact vl_cut_end ⟨rfl, rfl, rfl, rfl, trivial⟩ (by first | rfl | exact bool_to_t (by first | omega | simp_all) | exact bool_to_f (by first | omega | simp_all) | exact bool_to (by first | omega | simp_all) | exact bool_to_b (by first | omega | simp_all))
  · skip
    refine vl_end [(0, _), (1, _), (2, _), (6, _), (17, _)] ⟨rfl, rfl, rfl, rfl, rfl, trivial⟩ ?_
    refine then_next ?_
    refine vc_decideU rfl (fun h17 => ?_) (fun h17 => ?_)
    · skip
      exfalso; exact hE h17
    · skip
      refine vc_skip ?_
      refine then_next ?_
      refine vc_seq ?_
      refine vc_region ?_
      refine vl_det (det_move rfl) rfl ?_
      refine vl_det (det_move rfl) rfl ?_
      refine vl_call co15 rfl (dread_good (sz := sz) (by omega) (by omega) (by first | (exact Bor.own (by repeat (first | exact List.Mem.head _ | apply List.Mem.tail))) | (repeat (first | assumption | apply Bor.cons))) (by omega) hdr) rfl ?_
      rintro _ _ ⟨g22, P22, p22, Q22, q22, rfl, hLL⟩
      obtain rfl := hLL.symm
      refine vl_det (det_move rfl) rfl ?_
      refine vl_det (det_extract rfl rfl) rfl ?_
      refine vl_det (det_extract rfl rfl) rfl ?_
      refine vl_det (det_extract rfl rfl) rfl ?_
      refine vl_det (det_assign rfl) rfl ?_
      refine vl_det (det_assign rfl) rfl ?_
      refine vl_det (det_assign rfl) rfl ?_
      refine vl_end [(1, _), (2, _), (6, _), (8, _), (9, _), (10, _)] ⟨rfl, rfl, rfl, rfl, rfl, rfl, trivial⟩ ?_
      refine then_next ?_
      refine vc_seq ?_
      refine vc_seq ?_
      refine vc_region ?_
      refine vl_det (det_move rfl) rfl ?_
      refine vl_det (det_neq rfl rfl) rfl ?_
      refine vl_end [(1, _), (2, _), (6, _), (8, _), (9, _), (10, _), (27, _)] ⟨rfl, rfl, rfl, rfl, rfl, rfl, rfl, trivial⟩ ?_
      refine then_next ?_
      refine vc_decideU rfl (fun h27 => ?_) (fun h27 => ?_)
      · skip
        exfalso; exact h27 rfl
      · skip
        refine vc_skip ?_
        refine then_next ?_
        refine vc_seq ?_
        refine vh_region (S := Dd g22 sz P22 p22 Q22 q22 T (hdS sz T) (.blk g6 25 [.slice none 0 0, .slice none 0 0] :: F)) (by kernel_rfl) (by repeat (first | exact List.Sublist.refl _ | exact List.nil_sublist _ | exact List.sublist_append_right _ _ | apply List.Sublist.cons_cons | apply List.Sublist.cons)) ?_
        refine vh_take 0 rfl (by kernel_rfl) (by kernel_rfl) (by kernel_rfl) (det_move rfl) rfl ?_
        refine vh_take 2 rfl (by kernel_rfl) (by kernel_rfl) (by kernel_rfl) (det_move rfl) rfl ?_
        refine vh_take 3 rfl (by kernel_rfl) (by kernel_rfl) (by kernel_rfl) (det_move rfl) rfl ?_
        refine vh_take 4 rfl (by kernel_rfl) (by kernel_rfl) (by kernel_rfl) (det_move rfl) rfl ?_
        refine vh_take 5 rfl (by kernel_rfl) (by kernel_rfl) (by kernel_rfl) (det_slice_lo (i := t) (size := 1) Tryz.underlying26 (by kernel_rfl) rfl rfl rfl e2) rfl ?_
        rw [show b.length - t = (b.drop t).length from (List.length_drop ..).symm]
        refine vh_one 1 (by kernel_rfl) ?_
        refine st_call rfl .no co17 rfl (dlen_d) rfl (by rintro _ _ ⟨rfl, rfl⟩; exact (by repeat (first | exact List.Sublist.refl _ | exact List.nil_sublist _ | exact List.sublist_append_right _ _ | apply List.Sublist.cons_cons | apply List.Sublist.cons))) ?_
        rintro _ _ ⟨rfl, hLL⟩
        obtain rfl := hLL.symm
        refine vh_one 6 (by kernel_rfl) ?_
        refine st_call rfl .no co16 rfl (lists_d (n := T.length) (by first | (exact Bor.own (by repeat (first | exact List.Mem.head _ | apply List.Mem.tail))) | (repeat (first | assumption | apply Bor.cons))) (by omega) (by omega) (by omega) (by omega)) rfl (by rintro _ _ ⟨A37, c37, m37, X37, rfl, rfl, hX1, hX2⟩; exact (by repeat (first | exact List.Sublist.refl _ | exact List.nil_sublist _ | exact List.sublist_append_right _ _ | apply List.Sublist.cons_cons | apply List.Sublist.cons))) ?_
        rintro _ _ ⟨A37, c37, m37, X37, rfl, hLL, hX1, hX2⟩
        obtain rfl := hLL.symm
        rw [← hIL] at hX1 hX2
        refine vh_take 7 rfl (by kernel_rfl) (by kernel_rfl) (by kernel_rfl) (det_move rfl) rfl ?_
        refine vh_take 8 rfl (by kernel_rfl) (by kernel_rfl) (by kernel_rfl) (det_extract rfl rfl) rfl ?_
        refine vh_take 9 rfl (by kernel_rfl) (by kernel_rfl) (by kernel_rfl) (det_extract rfl rfl) rfl ?_
        refine vh_take 10 rfl (by kernel_rfl) (by kernel_rfl) (by kernel_rfl) (det_assign rfl) rfl ?_
        refine vh_take 11 rfl (by kernel_rfl) (by kernel_rfl) (by kernel_rfl) (det_assign rfl) rfl ?_
        refine vh_done [(6, _), (8, _), (10, _), (11, _)] ⟨rfl, rfl, rfl, rfl, trivial⟩ (by kernel_rfl) ?_
        refine then_next ?_
        refine vc_seq ?_
        refine vc_seq ?_
        refine vc_region ?_
        refine vl_det (det_move rfl) rfl ?_
        refine vl_det (det_neq rfl rfl) rfl ?_
        refine vl_end [(6, _), (8, _), (10, _), (11, _), (41, _)] ⟨rfl, rfl, rfl, rfl, rfl, trivial⟩ ?_
        refine then_next ?_
        refine vc_decideU rfl (fun h41 => ?_) (fun h41 => ?_)
        · skip
          have h41' : G.2 ≠ 0 := by rw [hIL]; simpa using h41
          obtain ⟨rfl, rfl, rfl, rfl⟩ := hX1 h41'
          rw [hR1 h41']
          refine vc_seq ?_
          refine vc_region ?_
          refine vl_det (det_build0 [.slice none 0 0, .slice none 0 0] (by kernel_rfl)) rfl ?_
          refine vl_det (det_move rfl) rfl ?_
          refine vl_eff0 (eff_store_whole 2 (by kernel_rfl) rfl rfl (by first | exact bv_one _ | exact strs_one _ | exact ints_one _ _ | (simp; done) | (simp [Value.oneCell']; done) | assumption) (by repeat (first | exact .hd | apply Sel.tl)) (by first | rfl | (simp; omega) | (simp [*]; done)) (by first | rfl | (simp; omega) | (simp [*]; done))) ?_
          rintro _ _ rfl
          refine vl_det (det_assign rfl) rfl ?_
          refine vl_end [(6, _), (7, _)] ⟨rfl, rfl, trivial⟩ ?_
          refine then_next ?_
          refine vc_ret ?_
          refine then_ret ?_
          refine ret_nil_row 42 1 none ?_
          refine ret_nil_row 9 1 none ?_
          refine ret_ct rfl rfl (by kernel_rfl) (by repeat (first | exact .hd | apply Sel.tl)) (by first | rfl | (simp; omega) | (simp [*]; done)) rfl (.cons (.cons (.skip (.skip (.skip (.skip (.refl _))))))) ?_
          exact idxQ_err (by rw [hIL])
        · skip
          have h41' : G.2 = 0 := by rw [hIL]; simpa using h41
          obtain ⟨LL, hL1, rfl, hL2, rfl⟩ := hX2 h41'
          rw [hR2 h41']
          refine vc_skip ?_
          refine then_next ?_
          refine vc_seq ?_
          refine vc_perm (perm4 (.own 42 1 A37 LL.length c37 (LL.map lVal) :: LL.map lRow)) ?_
          refine vc_region ?_
          refine vl_det (det_move rfl) rfl ?_
          refine vl_call co18 rfl (dall_d (by omega)) rfl ?_
          rintro _ _ ⟨A45, c45, rfl, hLL⟩
          obtain rfl := hLL.symm
          refine vl_det (det_move rfl) rfl ?_
          refine vl_det (det_build [(0, _), (1, _)] [_, _] rfl rfl (by kernel_rfl)) rfl ?_
          refine vl_eff0 (eff_store_whole 2 (by kernel_rfl) rfl rfl (by first | exact bv_one _ | exact strs_one _ | exact ints_one _ _ | (simp; done) | (simp [Value.oneCell']; done) | assumption) (by repeat (first | exact .hd | apply Sel.tl)) (by first | rfl | (simp; omega) | (simp [*]; done)) (by first | rfl | (simp; omega) | (simp [*]; done))) ?_
          rintro _ _ rfl
          refine vl_det (det_assign rfl) rfl ?_
          refine vl_end [(6, _), (7, _)] ⟨rfl, rfl, trivial⟩ ?_
          refine then_next ?_
          refine vc_ret ?_
          refine ret_ct rfl rfl (by kernel_rfl) (by repeat (first | exact .hd | apply Sel.tl)) (by first | rfl | (simp; omega) | (simp [*]; done)) rfl (.skip (.skip (.skip (.cons (.skip (.refl _)))))) ?_
          exact ⟨A45, c45, A37, c37, LL, rfl, hL1, rfl⟩
theorem pread_d {b : List UInt8} (hb : Bor B w0 F 1 (.slice A b.length c) b.length (bv b)) (hbl : b.length ≤ 100000) :
    Does Tryz.prog B w0 7 [.int .i64 size, .int .i64 bound, .slice A b.length c] F (IdxQ (idxRd size bound b) F) := by
  by_cases hE : bound < 0 ∨ 20000 < bound
  · exact pread_1 hE
  · by_cases he : (dictR size b).2.2 = 0
    · exact pread_3 hE hb (by omega) (by rw [List.length_drop]; omega) he
    · exact pread_2 hE hb (by omega) he
theorem pread_back {sz bn : Nat} {T : List Txt} {I : List (List Nat)} (h1 : 1 ≤ sz) (h2 : sz ≤ 64) (h3 : bn ≤ 20000) (hR : RisT T) (hl : T.length = I.length) (hI : ∀ x ∈ I, x ≠ [] ∧ RisN bn x) (hT : T.length ≤ 100) (hx : ∀ x ∈ I, x.length ≤ 100)
    (hb : Bor B w0 F 1 (.slice A (dictB sz T ++ I.flatMap (efB bn)).length c) (dictB sz T ++ I.flatMap (efB bn)).length (bv (dictB sz T ++ I.flatMap (efB bn)))) :
    Does Tryz.prog B w0 7 [.int .i64 sz, .int .i64 bn, .slice A (dictB sz T ++ I.flatMap (efB bn)).length c] F (IdxQ (T, I, 0) F) := by
  have hd := dict_back hR h1 h2 (I.flatMap (efB bn))
  have hlen : ∀ l : List (List Nat), (∀ x ∈ l, x ≠ [] ∧ RisN bn x) → (∀ x ∈ l, x.length ≤ 100) → (l.flatMap (efB bn)).length ≤ l.length * 300 := by
    intro l
    induction l with
    | nil => intro _ _; simp
    | cons x r ih =>
      intro ha hb
      have h4 := ih (fun y hy => ha y (by simp [hy])) (fun y hy => hb y (by simp [hy]))
      obtain ⟨h5, h6⟩ := ha x (by simp)
      have h7 := hb x (by simp)
      have h8 := List.length_pos_iff.2 h5
      have h9 := ef_short h6 h3 (by omega) (by omega)
      have h10 := wid_le (bound := bn) (n := x.length) h3
      have h11 : x.length * (wid bn x.length + 3) ≤ 100 * 17 := Nat.mul_le_mul h7 (by omega)
      rw [List.flatMap_cons, List.length_append, List.length_cons, Nat.add_mul]
      omega
  have hIl := hlen I hI hx
  have hB1 := bodyT_len (l := T) (sz := sz) h2 hR.le (List.range (chN sz T.length))
  have hH1 := headT_len (l := T) (sz := sz) h2 hR.le (List.range (chN sz T.length))
  have hN1 := encN_len10 (x := T.length) (by omega)
  have hcN : chN sz T.length ≤ 200 := by
    unfold chN
    exact Nat.le_trans (Nat.div_le_self _ _) (by omega)
  have hdl : (dictB sz T).length ≤ 1250000 := by
    rw [List.length_range] at hB1 hH1
    have h1 : chN sz T.length * 3000 ≤ 200 * 3000 := Nat.mul_le_mul_right _ hcN
    have h2 : chN sz T.length * 10 ≤ 200 * 10 := Nat.mul_le_mul_right _ hcN
    simp only [dictB, List.length_append]
    omega
  have := pread_3 (size := (sz : Int)) (bound := (bn : Int)) (by omega) hb (by rw [List.length_append]; omega) (by rw [hd]; simp only; rw [List.drop_left]; omega) (by rw [hd])
  rwa [idx_back h1 h2 h3 hR hl hI] at this
theorem pbytes_n {m : Nat} {B1 : Option Addr} {b1 : Nat} {T : List Txt} {LL : List LsI} (e : LL.length = m) (h1 : Bor B w0 F 1 (.slice A1 T.length c1) T.length (strs T)) (hL : Bor B w0 F 1 (.slice B1 m b1) m (LL.map iVal)) (hI : LsBor B w0 F LL) (hs3 : ∀ e ∈ LL, e.2.2.length ≤ 9000000000000000000) (hs : T.length ≤ 1000000000) {d : List UInt8} (hp : idxW size bound T (idsI LL) = (d, 0)) :
    Does Tryz.prog B w0 6 [.int .i64 size, .int .i64 bound, IdxA A1 T.length c1 B1 m b1] F (fun r L => ∃ A' c', r = .tuple #[.slice A' d.length c', .int .i64 0] ∧ L = .own 5 1 A' d.length c' (bv d) :: F) := by
  subst e
  have := pbytes_d (size := size) (bound := bound) h1 hL hI hs3 hs
  rwa [hp] at this
theorem idxRd_sz {b : List UInt8} (hs : size ≤ 9223372036854775807) : (idxRd size bound b).1.length ≤ 1048576 ∧ (idxRd size bound b).2.1.length ≤ 1048576 ∧ ∀ x ∈ (idxRd size bound b).2.1, x.length ≤ 20000 := by
  by_cases h : (idxRd size bound b).2.2 = 0
  · obtain ⟨sz, bn, rfl, rfl, h1, h2, h3, h4, h5, h6, _⟩ := idx_one h hs
    have h7 := h4.2
    exact ⟨h7, by omega, fun x hx => Nat.le_trans (h6 x hx).2.len h3⟩
  · have e : (idxRd size bound b).1 = [] ∧ (idxRd size bound b).2.1 = [] := by
      unfold idxRd at h ⊢
      split
      · exact ⟨rfl, rfl⟩
      · split
        · exact ⟨rfl, rfl⟩
        · split
          · exact ⟨rfl, rfl⟩
          · rename_i q1 q2 q3
            rw [if_neg q1, if_neg q2, if_neg q3] at h
            exact absurd rfl h
    rw [e.1, e.2]
    exact ⟨by simp, by simp, by simp⟩
theorem ids_le {LL : List Lst} {Q : List (List Nat)} {n : Nat} (h : LL.map (·.2.2) = Q) (hQ : ∀ x ∈ Q, x.length ≤ n) : ∀ e ∈ toI LL, e.2.2.length ≤ n := fun e he => by
  unfold toI at he
  obtain ⟨a, ha, rfl⟩ := List.mem_map.1 he
  have : a.2.2 ∈ Q := h ▸ List.mem_map_of_mem ha
  have := hQ _ this
  simp; omega
theorem mid3 {a b c d : Ch} {R : List Ch} (X : List Ch) : (a :: b :: c :: (X ++ d :: R)).Perm (d :: a :: b :: c :: (X ++ R)) :=
  (List.perm_middle (a := d) (l₁ := a :: b :: c :: X) (l₂ := R))
theorem wk_drop : ∀ M : List Ch, Wk M []
  | [] => .refl _
  | _ :: R => .skip (wk_drop R)
theorem mid4 {a b c d x : Ch} {R : List Ch} (X : List Ch) : (a :: b :: c :: d :: (X ++ x :: R)).Perm (x :: a :: b :: c :: d :: (X ++ R)) :=
  (List.perm_middle (a := x) (l₁ := a :: b :: c :: d :: X) (l₂ := R))
end Go.Proofs.YtpamjobiohbibaaGreat
