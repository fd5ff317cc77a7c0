/-
  Texts of one proof, joined: part 12. No condition.
-/
import Derived.Test.YtpamjobiohbibaaGreatGb11
import Derived.WideShapes
namespace Go.Proofs.YtpamjobiohbibaaGreat
open Go.RowKit
set_option linter.unusedVariables false
set_option maxRecDepth 20000
variable {B : Nat} {w0 : World} {F : List Ch} {A A1 A2 B1 B2 : Option Addr} {n c c1 c2 b1 b2 g : Nat} {bound size : Int} {T : List Txt} {LL : List LsI}
theorem rmay18_d (h1 : Bor B w0 F 1 (.slice A1 T.length c1) T.length (strs T)) (hL : Bor B w0 F 1 (.slice B1 LL.length b1) LL.length (LL.map iVal)) (hI : LsBor B w0 F LL) (hs3 : ∀ e ∈ LL, e.2.2.length ≤ 9000000000000000000) (hs : T.length ≤ 1000000000) :
    Does Tryz.prog B w0 10 [.int .i64 bound, IdxA A1 T.length c1 B1 LL.length b1] F (fun r L => r = .bool (decide (idxOk bound T (idsI LL))) ∧ L = F) := by
  have hil : (idsI LL).length = LL.length := by simp [idsI]
  refine fn_walk Tryz.func10 51 rfl rfl rfl [(0, .int .i64 bound), (1, IdxA A1 T.length c1 B1 LL.length b1)] ⟨⟨rfl, rfl⟩, ⟨rfl, rfl⟩, trivial⟩ ?_
  refine vc_seq ?_
  refine vc_region ?_
  refine vl_eff (eff_box rfl rfl) rfl ?_
  rintro _ _ ⟨g3, rfl, rfl⟩
  refine vl_det (det_assign rfl) rfl ?_
  refine vl_end [(0, _), (3, _)] ⟨rfl, rfl, trivial⟩ ?_
  refine then_next ?_
  refine vc_seq ?_
  refine vc_seq ?_
  refine vc_region ?_
  refine vl_cut 21 26 [(0, _), (3, _)] (((bound < 0 ∨ 20000 < bound) ∨ ¬ (T.length : Int) = LL.length) ∨ ¬ RisT T) ⟨rfl, rfl, trivial⟩ ?_ ?_
  · skip
    refine vl_det (det_move rfl) rfl ?_
    refine vl_det (det_lss rfl rfl) rfl ?_
    refine vl_det (det_move rfl) rfl ?_
    refine vl_guardn rfl rfl rfl (fun h8 => ?_) (fun h8 => ?_)
    · skip
      refine vl_det (det_move rfl) rfl ?_
      refine vl_guard_t rfl rfl ?_
      refine vl_det (det_gtr rfl rfl) rfl ?_
      refine vl_det (det_pick_f rfl rfl) rfl ?_
      refine vl_det (det_move rfl) rfl ?_
      refine vl_guardn rfl rfl rfl (fun h12 => ?_) (fun h12 => ?_)
      · skip
        refine vl_det (det_fieldAddr_ Tryz.underlying25 rfl (by kernel_rfl) rfl rfl) rfl ?_
        refine vl_guard_t rfl rfl ?_
        refine vl_det (det_load_blk (by kernel_rfl) rfl (by repeat (first | exact .hd | apply Sel.tl)) rfl) rfl ?_
        refine vl_guard_t rfl rfl ?_
        refine vl_det (det_len_sl Tryz.underlying22 rfl) rfl ?_
        refine vl_guard_t rfl rfl ?_
        refine vl_det (det_fieldAddr_ Tryz.underlying25 rfl (by kernel_rfl) rfl rfl) rfl ?_
        refine vl_guard_t rfl rfl ?_
        refine vl_det (det_load_blk (by kernel_rfl) rfl (by repeat (first | exact .hd | apply Sel.tl)) rfl) rfl ?_
        refine vl_guard_t rfl rfl ?_
        refine vl_det (det_len_sl Tryz.underlying23 rfl) rfl ?_
        refine vl_guard_t rfl rfl ?_
        refine vl_det (det_neq rfl rfl) rfl ?_
        refine vl_det (det_pick_f rfl rfl) rfl ?_
        refine vl_det (det_move rfl) rfl ?_
        refine vl_guardn rfl rfl rfl (fun h21 => ?_) (fun h21 => ?_)
        · skip
          refine vl_det (det_fieldAddr_ Tryz.underlying25 rfl (by kernel_rfl) rfl rfl) rfl ?_
          refine vl_guard_t rfl rfl ?_
          refine vl_det (det_load_blk (by kernel_rfl) rfl (by repeat (first | exact .hd | apply Sel.tl)) rfl) rfl ?_
          refine vl_guard_t rfl rfl ?_
          refine vl_call co21 rfl (rmayT_d (by first | (exact Bor.own (by repeat (first | exact List.Mem.head _ | apply List.Mem.tail))) | (repeat (first | assumption | apply Bor.cons))) (by omega)) rfl ?_
          rintro _ _ ⟨rfl, hLL⟩
          obtain rfl := hLL.symm
          refine vl_guard_t rfl rfl ?_
          refine vl_det (det_notd rfl) rfl ?_
          refine vl_det (det_pick_f rfl rfl) rfl ?_
          exact vl_cut_end ⟨rfl, rfl, trivial⟩ (by first | rfl | exact bool_to_t (by first | exact .inl (by omega) | exact ⟨fun z => .inr z, fun q => q.elim (fun z => by omega) (fun z => z)⟩) | exact bool_to_f (by first | exact .inl (by omega) | exact ⟨fun z => .inr z, fun q => q.elim (fun z => by omega) (fun z => z)⟩) | exact bool_to (by first | exact .inl (by omega) | exact ⟨fun z => .inr z, fun q => q.elim (fun z => by omega) (fun z => z)⟩) | exact bool_to_b (by first | exact .inl (by omega) | exact ⟨fun z => .inr z, fun q => q.elim (fun z => by omega) (fun z => z)⟩))
        · skip
          refine vl_guard_f rfl rfl rfl rfl ?_
          refine vl_guard_f rfl rfl rfl rfl ?_
          refine vl_guard_f rfl rfl rfl rfl ?_
          refine vl_det (det_pick_t rfl rfl) rfl ?_
          exact vl_cut_end ⟨rfl, rfl, trivial⟩ (by first | rfl | exact bool_to_t (by first | exact .inl (by omega) | exact ⟨fun z => .inr z, fun q => q.elim (fun z => by omega) (fun z => z)⟩) | exact bool_to_f (by first | exact .inl (by omega) | exact ⟨fun z => .inr z, fun q => q.elim (fun z => by omega) (fun z => z)⟩) | exact bool_to (by first | exact .inl (by omega) | exact ⟨fun z => .inr z, fun q => q.elim (fun z => by omega) (fun z => z)⟩) | exact bool_to_b (by first | exact .inl (by omega) | exact ⟨fun z => .inr z, fun q => q.elim (fun z => by omega) (fun z => z)⟩))
      · skip
        refine vl_guard_f rfl rfl rfl rfl ?_
        refine vl_guard_f rfl rfl rfl rfl ?_
        refine vl_guard_f rfl rfl rfl rfl ?_
        refine vl_guard_f rfl rfl rfl rfl ?_
        refine vl_guard_f rfl rfl rfl rfl ?_
        refine vl_guard_f rfl rfl rfl rfl ?_
        refine vl_det (det_pick_t rfl rfl) rfl ?_
        refine vl_det (det_move rfl) rfl ?_
        refine vl_guard_f rfl rfl rfl rfl ?_
        refine vl_guard_f rfl rfl rfl rfl ?_
        refine vl_guard_f rfl rfl rfl rfl ?_
        refine vl_guard_f rfl rfl rfl rfl ?_
        refine vl_det (det_pick_t rfl rfl) rfl ?_
        exact vl_cut_end ⟨rfl, rfl, trivial⟩ (by first | rfl | exact bool_to_t (by first | exact .inl (by omega) | exact ⟨fun z => .inr z, fun q => q.elim (fun z => by omega) (fun z => z)⟩) | exact bool_to_f (by first | exact .inl (by omega) | exact ⟨fun z => .inr z, fun q => q.elim (fun z => by omega) (fun z => z)⟩) | exact bool_to (by first | exact .inl (by omega) | exact ⟨fun z => .inr z, fun q => q.elim (fun z => by omega) (fun z => z)⟩) | exact bool_to_b (by first | exact .inl (by omega) | exact ⟨fun z => .inr z, fun q => q.elim (fun z => by omega) (fun z => z)⟩))
    · skip
      refine vl_guard_f rfl rfl rfl rfl ?_
      refine vl_det (det_pick_t rfl rfl) rfl ?_
      refine vl_det (det_move rfl) rfl ?_
      refine vl_guard_f rfl rfl rfl rfl ?_
      refine vl_guard_f rfl rfl rfl rfl ?_
      refine vl_guard_f rfl rfl rfl rfl ?_
      refine vl_guard_f rfl rfl rfl rfl ?_
      refine vl_guard_f rfl rfl rfl rfl ?_
      refine vl_guard_f rfl rfl rfl rfl ?_
      refine vl_guard_f rfl rfl rfl rfl ?_
      refine vl_det (det_pick_t rfl rfl) rfl ?_
      refine vl_det (det_move rfl) rfl ?_
      refine vl_guard_f rfl rfl rfl rfl ?_
      refine vl_guard_f rfl rfl rfl rfl ?_
      refine vl_guard_f rfl rfl rfl rfl ?_
      refine vl_guard_f rfl rfl rfl rfl ?_
      refine vl_det (det_pick_t rfl rfl) rfl ?_
      exact vl_cut_end ⟨rfl, rfl, trivial⟩ (by first | rfl | exact bool_to_t (by first | exact .inl (by omega) | exact ⟨fun z => .inr z, fun q => q.elim (fun z => by omega) (fun z => z)⟩) | exact bool_to_f (by first | exact .inl (by omega) | exact ⟨fun z => .inr z, fun q => q.elim (fun z => by omega) (fun z => z)⟩) | exact bool_to (by first | exact .inl (by omega) | exact ⟨fun z => .inr z, fun q => q.elim (fun z => by omega) (fun z => z)⟩) | exact bool_to_b (by first | exact .inl (by omega) | exact ⟨fun z => .inr z, fun q => q.elim (fun z => by omega) (fun z => z)⟩))
  · skip
    refine vl_end [(0, _), (3, _), (26, _)] ⟨rfl, rfl, rfl, trivial⟩ ?_
    refine then_next ?_
    refine vc_decideU rfl (fun h26 => ?_) (fun h26 => ?_)
    · skip
      refine vc_seq ?_
      refine vc_region ?_
      refine vl_det (det_assign rfl) rfl ?_
      refine vl_end [(4, _)] ⟨rfl, trivial⟩ ?_
      refine then_next ?_
      refine vc_ret ?_
      refine then_ret ?_
      refine ret_wk (L' := F) (.skip (.refl _)) ?_
      refine ret1 rfl rfl ?_
      exact ⟨by rw [decide_eq_false]; intro q; have q1 := q.1; have q2 := q.2.1; exact h26.elim (fun z => by omega) (fun z => z q.2.2.1), rfl⟩
    · skip
      refine vc_skip ?_
      refine then_next ?_
      refine vc_seq ?_
      refine vc_seq ?_
      refine vc_region ?_
      refine vl_det (det_assign rfl) rfl ?_
      refine vl_end [(0, _), (3, _), (5, _)] ⟨rfl, rfl, rfl, trivial⟩ ?_
      refine then_next ?_
      refine vc_block ?_
      refine vc_loopJ (fun zf zL zm => ∃ (k : Nat), (k ≤ LL.length ∧ (∀ i, i < k → (LL.getD i iNil).2.2 ≠ [] ∧ Ris bound (LL.getD i iNil).2.2)) ∧ LL.length - k = zm ∧ Sub zf [(0, .int .i64 bound), (3, .pointer (some ⟨g3, 0, none⟩)), (5, .int .i64 k)] ∧ Wk zL (.blk g3 25 [.slice A1 T.length c1, .slice B1 LL.length b1] :: F)) _ ⟨0, ⟨Nat.zero_le _, fun i h => absurd h (by omega)⟩, rfl, ⟨(by first | rfl | exact int_to (by omega) | exact sl_to (by omega)), (by first | rfl | exact int_to (by omega) | exact sl_to (by omega)), (by first | rfl | exact int_to (by omega) | exact sl_to (by omega)), trivial⟩, .refl _⟩ ?_
      rintro _ _ _ ⟨k, ⟨hk, hall⟩, rfl, hs, hp⟩
      refine vc_weaken _ hs (vc_wk hp ?_)
      clear hs hp
      refine vc_seq ?_
      refine vc_seq ?_
      refine vc_region ?_
      refine vl_det (det_move rfl) rfl ?_
      refine vl_det (det_fieldAddr_ Tryz.underlying25 rfl (by kernel_rfl) rfl rfl) rfl ?_
      refine vl_det (det_load_blk (by kernel_rfl) rfl (by repeat (first | exact .hd | apply Sel.tl)) rfl) rfl ?_
      refine vl_det (det_len_sl Tryz.underlying23 rfl) rfl ?_
      refine vl_det (det_lss rfl rfl) rfl ?_
      refine vl_end [(0, _), (3, _), (5, _), (31, _)] ⟨rfl, rfl, rfl, rfl, trivial⟩ ?_
      refine then_next ?_
      refine vc_decideU rfl (fun h31 => ?_) (fun h31 => ?_)
      · skip
        have hkl : k < LL.length := by omega
        have hie := (hI.get hkl)
        have hxl := hs3 _ (getD_mem hkl iNil)
        have hmem : (LL.getD k iNil).2.2 ∈ idsI LL := List.mem_map_of_mem (getD_mem hkl iNil)
        obtain ⟨x, hx⟩ : ∃ x, x = (LL.getD k iNil).2.2 := ⟨_, rfl⟩
        have hig := iget hkl
        obtain ⟨eA, ec, he⟩ : ∃ eA ec, LL.getD k iNil = (eA, ec, x) := ⟨_, _, by rw [hx]⟩
        rw [he] at hie hxl hmem hig
        refine vc_skip ?_
        refine then_next ?_
        refine vc_seq ?_
        refine vc_block ?_
        refine vc_seq ?_
        refine vc_region ?_
        refine vl_cut 17 50 [(0, _), (3, _), (5, _)] ((x.length : Int) = 0 ∨ ¬ Ris bound x) ⟨rfl, rfl, rfl, trivial⟩ ?_ ?_
        · skip
          refine vl_det (det_fieldAddr_ Tryz.underlying25 rfl (by kernel_rfl) rfl rfl) rfl ?_
          refine vl_det (det_load_blk (by kernel_rfl) rfl (by repeat (first | exact .hd | apply Sel.tl)) rfl) rfl ?_
          refine vl_det (det_move rfl) rfl ?_
          refine vl_det (det_indexAddr (size := 1) Tryz.underlying23 (by kernel_rfl) rfl rfl rfl (by omega) (by first | (exact Bor.own (by repeat (first | exact List.Mem.head _ | apply List.Mem.tail))) | (repeat (first | assumption | apply Bor.cons)))) rfl ?_
          refine vl_det (det_load_row (by kernel_rfl) rfl (by first | (exact Bor.own (by repeat (first | exact List.Mem.head _ | apply List.Mem.tail))) | (repeat (first | assumption | apply Bor.cons))) (by omega) hig) rfl ?_
          refine vl_det (det_len_sl Tryz.underlying42 rfl) rfl ?_
          refine vl_det (det_eql rfl rfl) rfl ?_
          refine vl_det (det_move rfl) rfl ?_
          refine vl_guardn rfl rfl rfl (fun h41 => ?_) (fun h41 => ?_)
          · skip
            refine vl_det (det_move rfl) rfl ?_
            refine vl_guard_t rfl rfl ?_
            refine vl_det (det_fieldAddr_ Tryz.underlying25 rfl (by kernel_rfl) rfl rfl) rfl ?_
            refine vl_guard_t rfl rfl ?_
            refine vl_det (det_load_blk (by kernel_rfl) rfl (by repeat (first | exact .hd | apply Sel.tl)) rfl) rfl ?_
            refine vl_guard_t rfl rfl ?_
            refine vl_det (det_move rfl) rfl ?_
            refine vl_guard_t rfl rfl ?_
            refine vl_det (det_indexAddr (size := 1) Tryz.underlying23 (by kernel_rfl) rfl rfl rfl (by omega) (by first | (exact Bor.own (by repeat (first | exact List.Mem.head _ | apply List.Mem.tail))) | (repeat (first | assumption | apply Bor.cons)))) rfl ?_
            refine vl_guard_t rfl rfl ?_
            refine vl_det (det_load_row (by kernel_rfl) rfl (by first | (exact Bor.own (by repeat (first | exact List.Mem.head _ | apply List.Mem.tail))) | (repeat (first | assumption | apply Bor.cons))) (by omega) hig) rfl ?_
            refine vl_guard_t rfl rfl ?_
            refine vl_call co22 rfl (may_d bound x (by first | (exact Bor.own (by repeat (first | exact List.Mem.head _ | apply List.Mem.tail))) | (repeat (first | assumption | apply Bor.cons))) hxl) rfl ?_
            rintro _ _ ⟨rfl, hLL⟩
            obtain rfl := hLL.symm
            refine vl_guard_t rfl rfl ?_
            refine vl_det (det_notd rfl) rfl ?_
            refine vl_det (det_pick_f rfl rfl) rfl ?_
            exact vl_cut_end ⟨rfl, rfl, rfl, trivial⟩ (by first | rfl | exact bool_to_t (by first | exact .inl (by assumption) | exact ⟨fun z => .inr (by simpa using z), fun q => q.elim (fun z => absurd z (by assumption)) (fun z => by simpa using z)⟩) | exact bool_to_f (by first | exact .inl (by assumption) | exact ⟨fun z => .inr (by simpa using z), fun q => q.elim (fun z => absurd z (by assumption)) (fun z => by simpa using z)⟩) | exact bool_to (by first | exact .inl (by assumption) | exact ⟨fun z => .inr (by simpa using z), fun q => q.elim (fun z => absurd z (by assumption)) (fun z => by simpa using z)⟩) | exact bool_to_b (by first | exact .inl (by assumption) | exact ⟨fun z => .inr (by simpa using z), fun q => q.elim (fun z => absurd z (by assumption)) (fun z => by simpa using z)⟩))
          · skip
            refine vl_guard_f rfl rfl rfl rfl ?_
            refine vl_guard_f rfl rfl rfl rfl ?_
            refine vl_guard_f rfl rfl rfl rfl ?_
            refine vl_guard_f rfl rfl rfl rfl ?_
            refine vl_guard_f rfl rfl rfl rfl ?_
            refine vl_guard_f rfl rfl rfl rfl ?_
            refine vl_guard_f rfl rfl rfl rfl ?_
            refine vl_det (det_pick_t rfl rfl) rfl ?_
            exact vl_cut_end ⟨rfl, rfl, rfl, trivial⟩ (by first | rfl | exact bool_to_t (by first | exact .inl (by assumption) | exact ⟨fun z => .inr (by simpa using z), fun q => q.elim (fun z => absurd z (by assumption)) (fun z => by simpa using z)⟩) | exact bool_to_f (by first | exact .inl (by assumption) | exact ⟨fun z => .inr (by simpa using z), fun q => q.elim (fun z => absurd z (by assumption)) (fun z => by simpa using z)⟩) | exact bool_to (by first | exact .inl (by assumption) | exact ⟨fun z => .inr (by simpa using z), fun q => q.elim (fun z => absurd z (by assumption)) (fun z => by simpa using z)⟩) | exact bool_to_b (by first | exact .inl (by assumption) | exact ⟨fun z => .inr (by simpa using z), fun q => q.elim (fun z => absurd z (by assumption)) (fun z => by simpa using z)⟩))
        · skip
          refine vl_end [(0, _), (3, _), (5, _), (50, _)] ⟨rfl, rfl, rfl, rfl, trivial⟩ ?_
          refine then_next ?_
          refine vc_decideU rfl (fun h50 => ?_) (fun h50 => ?_)
          · skip
            refine vc_seq ?_
            refine vc_region ?_
            refine vl_det (det_assign rfl) rfl ?_
            refine vl_end [(4, _)] ⟨rfl, trivial⟩ ?_
            refine then_next ?_
            refine vc_ret ?_
            refine in_ret ?_
            refine then_ret ?_
            refine loop_ret ?_
            refine in_ret ?_
            refine then_ret ?_
            refine ret_wk (L' := F) (.skip (.refl _)) ?_
            refine ret1 rfl rfl ?_
            exact ⟨by
              rw [decide_eq_false]
              intro q
              obtain ⟨q1, q2⟩ := q.2.2.2 x hmem
              exact h50.elim (fun z => q1 (List.eq_nil_of_length_eq_zero (by omega))) (fun z => z q2), rfl⟩
          · skip
            refine vc_skip ?_
            refine in_normal ?_
            refine then_next ?_
            refine vc_region ?_
            refine vl_det (det_move rfl) rfl ?_
            refine vl_det (det_add rfl rfl (w_i64 (by omega) (by omega))) rfl ?_
            refine vl_det (det_assign rfl) rfl ?_
            refine vl_end [(0, _), (3, _), (5, _)] ⟨rfl, rfl, rfl, trivial⟩ ?_
            refine in_loop_ ⟨_, by omega, k + 1, ⟨by omega, fun i hi => by
  rcases Nat.lt_or_ge i k with h | h
  · exact hall i h
  · rw [show i = k by omega, he]; exact ⟨fun q => h50 (.inl (by rw [show x = [] from q]; rfl)), Classical.not_not.1 fun q => h50 (.inr q)⟩⟩, rfl, ⟨(by first | rfl | exact int_to (by omega) | exact sl_to (by omega)), (by first | rfl | exact int_to (by omega) | exact sl_to (by omega)), (by first | rfl | exact int_to (by omega) | exact sl_to (by omega)), trivial⟩, .refl _⟩
      · skip
        refine vc_exit ?_
        refine then_exit ?_
        refine loop_exit ?_
        refine in_eq ?_
        refine then_next ?_
        refine vc_seq ?_
        refine vc_region ?_
        refine vl_det (det_assign rfl) rfl ?_
        refine vl_end [(4, _)] ⟨rfl, trivial⟩ ?_
        refine then_next ?_
        refine vc_ret ?_
        refine ret_wk (L' := F) (.skip (.refl _)) ?_
        refine ret1 rfl rfl ?_
        exact ⟨by
          obtain rfl : k = LL.length := by omega
          rw [decide_eq_true]
          refine ⟨⟨by omega, by omega⟩, by omega, Classical.not_not.1 fun z => h26 (.inr z), fun x hx => ?_⟩
          obtain ⟨i, hi, rfl⟩ := idsI_mem hx
          exact hall i hi, rfl⟩
theorem great18_d (h1 : Bor B w0 F 1 (.slice A1 T.length c1) T.length (strs T)) (hL : Bor B w0 F 1 (.slice B1 LL.length b1) LL.length (LL.map iVal)) (hs : T.length ≤ 9223372036854775807) (hs2 : LL.length ≤ 9223372036854775807) :
    Does Tryz.prog B w0 5 [IdxA A1 T.length c1 B1 LL.length b1] F (fun r L => ∃ b, r = .bool b ∧ L = F ∧ (b = false → T.length ≤ 100 ∧ LL.length ≤ 100 ∧ ∀ e ∈ LL, e.2.2.length ≤ 100)) := by
  refine fn_walk Tryz.func5 43 rfl rfl rfl [(0, IdxA A1 T.length c1 B1 LL.length b1)] ⟨⟨rfl, rfl⟩, trivial⟩ ?_
  refine vc_seq ?_
  refine vc_region ?_
  refine vl_eff (eff_box rfl rfl) rfl ?_
  rintro _ _ ⟨g1, rfl, rfl⟩
  refine vl_det (det_assign rfl) rfl ?_
  refine vl_end [(1, _)] ⟨rfl, trivial⟩ ?_
  refine then_next ?_
  refine vc_seq ?_
  refine vc_seq ?_
  refine vc_region ?_
  refine vl_cut 10 14 [(1, _)] (100 < T.length ∨ 100 < LL.length) ⟨rfl, trivial⟩ ?_ ?_
  · skip
    refine vl_det (det_fieldAddr_ Tryz.underlying25 rfl (by kernel_rfl) rfl rfl) rfl ?_
    refine vl_det (det_load_blk (by kernel_rfl) rfl (by repeat (first | exact .hd | apply Sel.tl)) rfl) rfl ?_
    refine vl_det (det_len_sl Tryz.underlying22 rfl) rfl ?_
    refine vl_det (det_gtr rfl rfl) rfl ?_
    refine vl_det (det_move rfl) rfl ?_
    refine vl_guardn rfl rfl rfl (fun h9 => ?_) (fun h9 => ?_)
    · skip
      refine vl_det (det_fieldAddr_ Tryz.underlying25 rfl (by kernel_rfl) rfl rfl) rfl ?_
      refine vl_guard_t rfl rfl ?_
      refine vl_det (det_load_blk (by kernel_rfl) rfl (by repeat (first | exact .hd | apply Sel.tl)) rfl) rfl ?_
      refine vl_guard_t rfl rfl ?_
      refine vl_det (det_len_sl Tryz.underlying23 rfl) rfl ?_
      refine vl_guard_t rfl rfl ?_
      refine vl_det (det_gtr rfl rfl) rfl ?_
      refine vl_det (det_pick_f rfl rfl) rfl ?_
      exact vl_cut_end ⟨rfl, trivial⟩ (by first | rfl | exact bool_to_t (by first | omega | simp_all) | exact bool_to_f (by first | omega | simp_all) | exact bool_to (by first | omega | simp_all) | exact bool_to_b (by first | omega | simp_all))
    · skip
      refine vl_guard_f rfl rfl rfl rfl ?_
      refine vl_guard_f rfl rfl rfl rfl ?_
      refine vl_guard_f rfl rfl rfl rfl ?_
      refine vl_det (det_pick_t rfl rfl) rfl ?_
      exact vl_cut_end ⟨rfl, trivial⟩ (by first | rfl | exact bool_to_t (by first | omega | simp_all) | exact bool_to_f (by first | omega | simp_all) | exact bool_to (by first | omega | simp_all) | exact bool_to_b (by first | omega | simp_all))
  · skip
    refine vl_end [(1, _), (14, _)] ⟨rfl, rfl, trivial⟩ ?_
    refine then_next ?_
    refine vc_decideU rfl (fun h14 => ?_) (fun h14 => ?_)
    · skip
      refine vc_seq ?_
      refine vc_region ?_
      refine vl_det (det_assign rfl) rfl ?_
      refine vl_end [(2, _)] ⟨rfl, trivial⟩ ?_
      refine then_next ?_
      refine vc_ret ?_
      refine then_ret ?_
      refine ret_wk (L' := F) (.skip (.refl _)) ?_
      refine ret1 rfl rfl ?_
      exact ⟨true, rfl, rfl, fun h => by cases h⟩
    · skip
      refine vc_skip ?_
      refine then_next ?_
      refine vc_seq ?_
      refine vc_seq ?_
      refine vc_region ?_
      refine vl_det (det_assign rfl) rfl ?_
      refine vl_end [(1, _), (3, _)] ⟨rfl, rfl, trivial⟩ ?_
      refine then_next ?_
      refine vc_block ?_
      refine vc_loopJ (fun zf zL zm => ∃ (k : Nat), (k ≤ T.length) ∧ T.length - k = zm ∧ Sub zf [(1, .pointer (some ⟨g1, 0, none⟩)), (3, .int .i64 k)] ∧ Wk zL (.blk g1 25 [.slice A1 T.length c1, .slice B1 LL.length b1] :: F)) _ ⟨0, Nat.zero_le _, rfl, ⟨(by first | rfl | exact int_to (by omega) | exact sl_to (by omega)), (by first | rfl | exact int_to (by omega) | exact sl_to (by omega)), trivial⟩, .refl _⟩ ?_
      rintro _ _ _ ⟨k, hk, rfl, hs, hp⟩
      refine vc_weaken _ hs (vc_wk hp ?_)
      clear hs hp
      refine vc_seq ?_
      refine vc_seq ?_
      refine vc_region ?_
      refine vl_det (det_move rfl) rfl ?_
      refine vl_det (det_fieldAddr_ Tryz.underlying25 rfl (by kernel_rfl) rfl rfl) rfl ?_
      refine vl_det (det_load_blk (by kernel_rfl) rfl (by repeat (first | exact .hd | apply Sel.tl)) rfl) rfl ?_
      refine vl_det (det_len_sl Tryz.underlying22 rfl) rfl ?_
      refine vl_det (det_lss rfl rfl) rfl ?_
      refine vl_end [(1, _), (3, _), (19, _)] ⟨rfl, rfl, rfl, trivial⟩ ?_
      refine then_next ?_
      refine vc_decideU rfl (fun h19 => ?_) (fun h19 => ?_)
      · skip
        refine vc_skip ?_
        refine then_next ?_
        refine vc_seq ?_
        refine vc_block ?_
        refine vc_seq ?_
        refine vc_region ?_
        refine vl_det (det_fieldAddr_ Tryz.underlying25 rfl (by kernel_rfl) rfl rfl) rfl ?_
        refine vl_det (det_load_blk (by kernel_rfl) rfl (by repeat (first | exact .hd | apply Sel.tl)) rfl) rfl ?_
        refine vl_det (det_move rfl) rfl ?_
        refine vl_det (det_indexAddr (size := 1) Tryz.underlying22 (by kernel_rfl) rfl rfl rfl (by omega) (by first | (exact Bor.own (by repeat (first | exact List.Mem.head _ | apply List.Mem.tail))) | (repeat (first | assumption | apply Bor.cons)))) rfl ?_
        refine vl_det (det_load_str (by kernel_rfl) rfl (by first | (exact Bor.own (by repeat (first | exact List.Mem.head _ | apply List.Mem.tail))) | (repeat (first | assumption | apply Bor.cons))) (by omega)) rfl ?_
        refine vl_det (det_len_s Tryz.underlying9 rfl) rfl ?_
        refine vl_det (det_gtr rfl rfl) rfl ?_
        refine vl_end [(1, _), (3, _), (28, _)] ⟨rfl, rfl, rfl, trivial⟩ ?_
        refine then_next ?_
        refine vc_decideU rfl (fun h28 => ?_) (fun h28 => ?_)
        · skip
          refine vc_seq ?_
          refine vc_region ?_
          refine vl_det (det_assign rfl) rfl ?_
          refine vl_end [(2, _)] ⟨rfl, trivial⟩ ?_
          refine then_next ?_
          refine vc_ret ?_
          refine in_ret ?_
          refine then_ret ?_
          refine loop_ret ?_
          refine in_ret ?_
          refine then_ret ?_
          refine ret_wk (L' := F) (.skip (.refl _)) ?_
          refine ret1 rfl rfl ?_
          exact ⟨true, rfl, rfl, fun h => by cases h⟩
        · skip
          refine vc_skip ?_
          refine in_normal ?_
          refine then_next ?_
          refine vc_region ?_
          refine vl_det (det_move rfl) rfl ?_
          refine vl_det (det_add rfl rfl (w_i64 (by omega) (by omega))) rfl ?_
          refine vl_det (det_assign rfl) rfl ?_
          refine vl_end [(1, _), (3, _)] ⟨rfl, rfl, trivial⟩ ?_
          refine in_loop_ ⟨_, by omega, k + 1, by omega, rfl, ⟨(by first | rfl | exact int_to (by omega) | exact sl_to (by omega)), (by first | rfl | exact int_to (by omega) | exact sl_to (by omega)), trivial⟩, .refl _⟩
      · skip
        refine vc_exit ?_
        refine then_exit ?_
        refine loop_exit ?_
        refine in_eq ?_
        refine then_next ?_
        refine vc_seq ?_
        refine vc_seq ?_
        refine vc_region ?_
        refine vl_det (det_assign rfl) rfl ?_
        refine vl_end [(1, _), (4, _)] ⟨rfl, rfl, trivial⟩ ?_
        refine then_next ?_
        refine vc_block ?_
        refine vc_loopJ (fun zf zL zm => ∃ (k : Nat), (k ≤ LL.length ∧ ∀ i, i < k → (LL.getD i iNil).2.2.length ≤ 100) ∧ LL.length - k = zm ∧ Sub zf [(1, .pointer (some ⟨g1, 0, none⟩)), (4, .int .i64 k)] ∧ Wk zL (.blk g1 25 [.slice A1 T.length c1, .slice B1 LL.length b1] :: F)) _ ⟨0, ⟨Nat.zero_le _, fun i h => absurd h (by omega)⟩, rfl, ⟨(by first | rfl | exact int_to (by omega) | exact sl_to (by omega)), (by first | rfl | exact int_to (by omega) | exact sl_to (by omega)), trivial⟩, .refl _⟩ ?_
        rintro _ _ _ ⟨k, ⟨hk, hall⟩, rfl, hs, hp⟩
        refine vc_weaken _ hs (vc_wk hp ?_)
        clear hs hp
        refine vc_seq ?_
        refine vc_seq ?_
        refine vc_region ?_
        refine vl_det (det_move rfl) rfl ?_
        refine vl_det (det_fieldAddr_ Tryz.underlying25 rfl (by kernel_rfl) rfl rfl) rfl ?_
        refine vl_det (det_load_blk (by kernel_rfl) rfl (by repeat (first | exact .hd | apply Sel.tl)) rfl) rfl ?_
        refine vl_det (det_len_sl Tryz.underlying23 rfl) rfl ?_
        refine vl_det (det_lss rfl rfl) rfl ?_
        refine vl_end [(1, _), (4, _), (33, _)] ⟨rfl, rfl, rfl, trivial⟩ ?_
        refine then_next ?_
        refine vc_decideU rfl (fun h33 => ?_) (fun h33 => ?_)
        · skip
          refine vc_skip ?_
          refine then_next ?_
          refine vc_seq ?_
          refine vc_block ?_
          refine vc_seq ?_
          refine vc_region ?_
          refine vl_det (det_fieldAddr_ Tryz.underlying25 rfl (by kernel_rfl) rfl rfl) rfl ?_
          refine vl_det (det_load_blk (by kernel_rfl) rfl (by repeat (first | exact .hd | apply Sel.tl)) rfl) rfl ?_
          refine vl_det (det_move rfl) rfl ?_
          refine vl_det (det_indexAddr (size := 1) Tryz.underlying23 (by kernel_rfl) rfl rfl rfl (by omega) (by first | (exact Bor.own (by repeat (first | exact List.Mem.head _ | apply List.Mem.tail))) | (repeat (first | assumption | apply Bor.cons)))) rfl ?_
          refine vl_det (det_load_row (by kernel_rfl) rfl (by first | (exact Bor.own (by repeat (first | exact List.Mem.head _ | apply List.Mem.tail))) | (repeat (first | assumption | apply Bor.cons))) (by omega) (iget (LL := LL) (k := k) (by omega))) rfl ?_
          refine vl_det (det_len_sl Tryz.underlying42 rfl) rfl ?_
          refine vl_det (det_gtr rfl rfl) rfl ?_
          refine vl_end [(1, _), (4, _), (42, _)] ⟨rfl, rfl, rfl, trivial⟩ ?_
          refine then_next ?_
          refine vc_decideU rfl (fun h42 => ?_) (fun h42 => ?_)
          · skip
            refine vc_seq ?_
            refine vc_region ?_
            refine vl_det (det_assign rfl) rfl ?_
            refine vl_end [(2, _)] ⟨rfl, trivial⟩ ?_
            refine then_next ?_
            refine vc_ret ?_
            refine in_ret ?_
            refine then_ret ?_
            refine loop_ret ?_
            refine in_ret ?_
            refine then_ret ?_
            refine ret_wk (L' := F) (.skip (.refl _)) ?_
            refine ret1 rfl rfl ?_
            exact ⟨true, rfl, rfl, fun h => by cases h⟩
          · skip
            refine vc_skip ?_
            refine in_normal ?_
            refine then_next ?_
            refine vc_region ?_
            refine vl_det (det_move rfl) rfl ?_
            refine vl_det (det_add rfl rfl (w_i64 (by omega) (by omega))) rfl ?_
            refine vl_det (det_assign rfl) rfl ?_
            refine vl_end [(1, _), (4, _)] ⟨rfl, rfl, trivial⟩ ?_
            refine in_loop_ ⟨_, by omega, k + 1, ⟨by omega, fun i hi => by
  rcases Nat.lt_or_ge i k with h | h
  · exact hall i h
  · rw [show i = k by omega]; omega⟩, rfl, ⟨(by first | rfl | exact int_to (by omega) | exact sl_to (by omega)), (by first | rfl | exact int_to (by omega) | exact sl_to (by omega)), trivial⟩, .refl _⟩
        · skip
          refine vc_exit ?_
          refine then_exit ?_
          refine loop_exit ?_
          refine in_eq ?_
          refine then_next ?_
          refine vc_seq ?_
          refine vc_region ?_
          refine vl_det (det_assign rfl) rfl ?_
          refine vl_end [(2, _)] ⟨rfl, trivial⟩ ?_
          refine then_next ?_
          refine vc_ret ?_
          refine ret_wk (L' := F) (.skip (.refl _)) ?_
          refine ret1 rfl rfl ?_
          exact ⟨false, rfl, rfl, fun _ => ⟨by omega, by omega, fun e he => by
            obtain ⟨i, hi, rfl⟩ := List.getElem_of_mem he
            have := hall i (by omega)
            simpa [List.getD, List.getElem?_eq_getElem hi] using this⟩⟩
end Go.Proofs.YtpamjobiohbibaaGreat
namespace Go.Proofs.YtpamjobiohbibaaGreat
open Go.RowKit
set_option linter.unusedVariables false
set_option maxRecDepth 20000
variable {B : Nat} {w0 : World} {F : List Ch} {A A1 A2 B1 B2 : Option Addr} {n c c1 c2 b1 b2 g : Nat} {bound size : Int} {T : List Txt} {LL : List LsI}
theorem may_true {f : FuncId} {args : List Value} {P : Prop} {d : Decidable P} (h : Does Tryz.prog B w0 f args F (fun r L => r = .bool (@decide P d) ∧ L = F)) (hp : P) : Does Tryz.prog B w0 f args F (fun r L => r = .bool true ∧ L = F) :=
  h.mono fun r L k => ⟨k.1.trans (by rw [decide_eq_true hp]), k.2⟩
theorem rmay18_n {m : Nat} (e : LL.length = m) (h1 : Bor B w0 F 1 (.slice A1 T.length c1) T.length (strs T)) (hL : Bor B w0 F 1 (.slice B1 m b1) m (LL.map iVal)) (hI : LsBor B w0 F LL) (hs3 : ∀ e ∈ LL, e.2.2.length ≤ 9000000000000000000) (hs : T.length ≤ 1000000000) (hp : idxOk bound T (idsI LL)) :
    Does Tryz.prog B w0 10 [.int .i64 bound, IdxA A1 T.length c1 B1 m b1] F (fun r L => r = .bool true ∧ L = F) := by
  subst e; exact may_true (rmay18_d h1 hL hI hs3 hs) hp
end Go.Proofs.YtpamjobiohbibaaGreat
namespace Go.Proofs.YtpamjobiohbibaaGreat
open Go.RowKit
theorem dec_intW (W : World) : DecT Tryz.prog W 3 (fun x : Int => [.int .i64 x]) (fun x => -9223372036854775808 ≤ x ∧ x ≤ 9223372036854775807) := dec_int Tryz.underlying3
end Go.Proofs.YtpamjobiohbibaaGreat
namespace Go.Proofs.YtpamjobiohbibaaGreat
open Go.RowKit Go.WideShapes
theorem agg_of {P : Program} {W : World} {base : Nat} {t : TypeId} {fs : Array Field} {v : Value} {xs : List Value} (ht : P.underlying t = some (.struct fs)) (hv : Value.okWide P W .any base t v) (e : v.cells.toList = xs) : Value.agg xs.toArray = v := by
  obtain ⟨cs, rfl, _⟩ := okWide_struct ht hv
  simp only [Value.cells] at e
  rw [← e]
end Go.Proofs.YtpamjobiohbibaaGreat
namespace Go.Proofs.YtpamjobiohbibaaGreat
open Go.RowKit
set_option linter.unusedVariables false
set_option maxRecDepth 20000
section
variable {P : Program} {w : World} {t : TypeId}
theorem dec_struct2 {α β : Type} {f0 f1 : Field} {F0 : α → Value} {F1 : β → Value} {O0 : α → Prop} {O1 : β → Prop}
    (ht : P.underlying t = some (.struct #[f0, f1])) (hc : P.cellsOf t = 2) (h0 : f0.offset = 0 ∧ P.cellsOf f0.type = 1) (h1 : f1.offset = 1 ∧ P.cellsOf f1.type = 1)
    (d0 : DecT P w f0.type (fun x => [F0 x]) O0) (d1 : DecT P w f1.type (fun x => [F1 x]) O1) :
    DecT P w t (fun x : α × β => [F0 x.1, F1 x.2]) (fun x => O0 x.1 ∧ O1 x.2) := by
  intro H enc n cs y h
  obtain ⟨xs, n', _, _, hl, hx, hf⟩ := DataW.trod_struct ht h
  rw [hc] at hl
  obtain ⟨c0, c1, rfl⟩ : ∃ c0 c1, cs = [c0, c1] := by
    match cs, hl with
    | [c0, c1], _ => exact ⟨c0, c1, rfl⟩
  obtain ⟨y0, y1, rfl⟩ : ∃ y0 y1, xs = [y0, y1] := by
    match xs, hx with
    | [y0, y1], _ => exact ⟨y0, y1, rfl⟩
  have g0 := hf 0 f0 rfl
  have g1 := hf 1 f1 rfl
  rw [h0.1, h0.2] at g0
  rw [h1.1, h1.2] at g1
  obtain ⟨a, ea, oa⟩ := d0 H enc _ _ _ g0
  obtain ⟨b, eb, ob⟩ := d1 H enc _ _ _ g1
  simp at ea eb
  exact ⟨(a, b), by simp [ea, eb], oa, ob⟩
end
abbrev IdxX := (Value × List Txt) × (Value × List (Value × List Int))
def IdxX.cells (x : IdxX) : List Value := [x.1.1, x.2.1]
def IdxX.ok (w : World) (x : IdxX) : Prop :=
  (Rd w w.heap.size 1 x.1.1 x.1.2.length (x.1.2.flatMap fun s => [.string ⟨s.toArray⟩]) ∧ (∀ y ∈ x.1.2, y.length ≤ maxLen) ∧ x.1.2.length ≤ maxLen) ∧
  (Rd w w.heap.size 1 x.2.1 x.2.2.length (x.2.2.flatMap fun y => [y.1]) ∧ (∀ y ∈ x.2.2, Rd w w.heap.size 1 y.1 y.2.length (y.2.flatMap fun n => [.int .i64 n]) ∧ (∀ z ∈ y.2, -9223372036854775808 ≤ z ∧ z ≤ 9223372036854775807) ∧ y.2.length ≤ maxLen) ∧ x.2.2.length ≤ maxLen)
theorem dec_idx (w : World) : DecT Tryz.prog w 25 IdxX.cells (IdxX.ok w) :=
  dec_struct2 Tryz.underlying25 (by kernel_rfl) ⟨rfl, by kernel_rfl⟩ ⟨rfl, by kernel_rfl⟩
    (dec_slice Tryz.underlying22 (by kernel_rfl : Tryz.prog.cellsOf 9 = 1) (by omega) (fun _ => rfl) (dec_strL Tryz.underlying9))
    (dec_slice Tryz.underlying23 (by kernel_rfl : Tryz.prog.cellsOf 42 = 1) (by omega) (fun _ => rfl) (dec_slice Tryz.underlying42 (by kernel_rfl : Tryz.prog.cellsOf 3 = 1) (by omega) (fun _ => rfl) (dec_intW w)))
theorem flat_one {α β : Type} (f : α → β) : ∀ l : List α, (l.flatMap fun x => [f x]) = l.map f
  | [] => rfl
  | x :: r => by rw [List.flatMap_cons, flat_one f r]; rfl
theorem ls_open {w : World} : ∀ L : List (Value × List Int), (∀ y ∈ L, Rd w w.heap.size 1 y.1 y.2.length (y.2.flatMap fun n => [.int .i64 n]) ∧ (∀ z ∈ y.2, -9223372036854775808 ≤ z ∧ z ≤ 9223372036854775807) ∧ y.2.length ≤ maxLen) →
    ∃ LL : List LsI, L.map (·.1) = LL.map iVal ∧ LL.length = L.length ∧ LsBor w.heap.size w [] LL ∧ ∀ e ∈ LL, e.2.2.length ≤ maxLen
  | [], _ => ⟨[], rfl, rfl, fun e he => by simp at he, fun e he => by simp at he⟩
  | y :: r, h => by
    obtain ⟨LL, e1, e2, e3, e4⟩ := ls_open r (fun z hz => h z (List.mem_cons_of_mem _ hz))
    obtain ⟨hr, _, hm⟩ := h y (List.Mem.head _)
    obtain ⟨A, c, hv, hc⟩ := hr.form
    rw [flat_one, hv] at hr
    refine ⟨(A, c, y.2) :: LL, by rw [List.map_cons, List.map_cons, e1, hv], by simp [e2], fun e he => ?_, fun e he => ?_⟩
    · rcases List.mem_cons.1 he with rfl | he
      · exact Bor.in_ hr
      · exact e3 e he
    · rcases List.mem_cons.1 he with rfl | he
      · exact hm
      · exact e4 e he
theorem idx_open {w : World} {x : IdxX} (h : IdxX.ok w x) : ∃ A1 c1 B1 b1 T LL, IdxX.cells x = [.slice A1 T.length c1, .slice B1 LL.length b1] ∧ Bor w.heap.size w [] 1 (.slice A1 T.length c1) T.length (strs T) ∧
    Bor w.heap.size w [] 1 (.slice B1 LL.length b1) LL.length (LL.map iVal) ∧ LsBor w.heap.size w [] LL ∧ T.length ≤ maxLen ∧ LL.length ≤ maxLen ∧ ∀ e ∈ LL, e.2.2.length ≤ maxLen := by
  obtain ⟨⟨hr1, _, hm1⟩, hr2, ho2, hm2⟩ := h
  obtain ⟨A1, c1, hv1, hc1⟩ := hr1.form
  obtain ⟨B1, b1, hv2, hc2⟩ := hr2.form
  obtain ⟨LL, e1, e2, e3, e4⟩ := ls_open _ ho2
  rw [flat_one] at hr1 hr2
  rw [hv1] at hr1
  rw [hv2, e1, ← e2] at hr2
  refine ⟨A1, c1, B1, b1, x.1.2, LL, ?_, Bor.in_ hr1, Bor.in_ hr2, e3, hm1, by omega, e4⟩
  unfold IdxX.cells
  rw [hv1, hv2, e2]
variable {B : Nat} {w0 : World} {F : List Ch} {A A1 A2 B1 B2 : Option Addr} {n c c1 c2 b1 b2 g : Nat} {bound size : Int} {T : List Txt} {LL : List LsI}
def gr18 (T : List Txt) (LL : List LsI) : Prop := 100 < T.length ∨ 100 < LL.length ∨ (∃ i, i < T.length ∧ 60 < (T.getD i []).length) ∨ ∃ i, i < LL.length ∧ 100 < (LL.getD i iNil).2.2.length
instance (T : List Txt) (LL : List LsI) : Decidable (gr18 T LL) := inferInstanceAs (Decidable (_ ∨ _ ∨ _ ∨ _))
end Go.Proofs.YtpamjobiohbibaaGreat
