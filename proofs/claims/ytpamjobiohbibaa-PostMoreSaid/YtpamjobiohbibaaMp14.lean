/-
  Texts of one proof, joined: part 14. No condition.
-/
import Derived.Test.YtpamjobiohbibaaMp13
import Derived.WideShapes
namespace Go.Proofs.Ytpamjobiohbibaa
open Go.RowKit
set_option linter.unusedVariables false
set_option maxRecDepth 20000
variable {B : Nat} {w0 : World} {F : List Ch} {A A1 A2 B1 B2 : Option Addr} {n c c1 c2 b1 b2 g : Nat} {bound size : Int} {T : List Txt} {LL : List LsI}
theorem rdwrite_d {l : List Txt} (hb : Bor B w0 F 1 (.slice A l.length c) l.length (strs l)) (hl : l.length ≤ 1000000000000000) :
    Does Try.prog B w0 41 [.int .i64 size, .slice A l.length c] F (fun r L => ∃ A' c', r = .tuple #[.slice A' (dictW size l).1.length c', .int .i64 (dictW size l).2] ∧ L = .own 5 1 A' (dictW size l).1.length c' (bv (dictW size l).1) :: F) := by
  by_cases hE : size < 1 ∨ 64 < size ∨ ¬ RisT l
  · rw [dictW_bad hE]; exact rdwrite_bad hb hl hE
  · have hR : RisT l := Classical.byContradiction fun h => hE (.inr (.inr h))
    obtain ⟨sz, rfl⟩ := Int.eq_ofNat_of_zero_le (show 0 ≤ size by omega)
    rw [dictW_ok hE]
    exact rdwrite_ok hb (by omega) (by omega) hR
theorem rdwrite_t {l : List Txt} (hb : Bor B w0 F 1 (.slice A l.length c) l.length (strs l)) (hs1 : 1 ≤ size) (hs2 : size ≤ 64) (hR : RisT l) :
    Does Try.prog B w0 41 [.int .i64 size, .slice A l.length c] F (fun r L => ∃ A' c', r = .tuple #[.slice A' (dictB size.toNat l).length c', .int .i64 0] ∧ L = .own 5 1 A' (dictB size.toNat l).length c' (bv (dictB size.toNat l)) :: F) := by
  obtain ⟨sz, rfl⟩ := Int.eq_ofNat_of_zero_le (show 0 ≤ size by omega)
  exact rdwrite_ok hb (by omega) (by omega) hR
theorem rmay18_d (h1 : Bor B w0 F 1 (.slice A1 T.length c1) T.length (strs T)) (hL : Bor B w0 F 1 (.slice B1 LL.length b1) LL.length (LL.map iVal)) (hI : LsBor B w0 F LL) (hs3 : ∀ e ∈ LL, e.2.2.length ≤ 9000000000000000000) (hs : T.length ≤ 1000000000) :
    Does Try.prog B w0 20 [.int .i64 bound, IdxA A1 T.length c1 B1 LL.length b1] F (fun r L => r = .bool (decide (idxOk bound T (idsI LL))) ∧ L = F) := by
  have hil : (idsI LL).length = LL.length := by simp [idsI]
  refine fn_walk Try.func20 51 rfl rfl rfl [(0, .int .i64 bound), (1, IdxA A1 T.length c1 B1 LL.length b1)] ⟨⟨rfl, rfl⟩, ⟨rfl, rfl⟩, trivial⟩ ?_
  refine vc_seq ?_
  refine vc_region ?_
  refine vl_eff (eff_box rfl rfl) rfl ?_
  rintro _ _ ⟨g3, rfl, rfl⟩
  refine vl_det (det_assign rfl) rfl ?_
  refine vl_end [(0, _), (3, _)] ⟨rfl, rfl, trivial⟩ ?_
  refine then_next ?_
  refine vc_seq ?_
  refine vc_seq ?_
  refine vc_region ?_
  refine vl_cut 21 26 [(0, _), (3, _)] (((bound < 0 ∨ 20000 < bound) ∨ ¬ (T.length : Int) = LL.length) ∨ ¬ RisT T) ⟨rfl, rfl, trivial⟩ ?_ ?_
  · skip
    refine vl_det (det_move rfl) rfl ?_
    refine vl_det (det_lss rfl rfl) rfl ?_
    refine vl_det (det_move rfl) rfl ?_
    refine vl_guardn rfl rfl rfl (fun h8 => ?_) (fun h8 => ?_)
    · skip
      refine vl_det (det_move rfl) rfl ?_
      refine vl_guard_t rfl rfl ?_
      refine vl_det (det_gtr rfl rfl) rfl ?_
      refine vl_det (det_pick_f rfl rfl) rfl ?_
      refine vl_det (det_move rfl) rfl ?_
      refine vl_guardn rfl rfl rfl (fun h12 => ?_) (fun h12 => ?_)
      · skip
        refine vl_det (det_fieldAddr_ Try.underlying29 rfl (by kernel_rfl) rfl rfl) rfl ?_
        refine vl_guard_t rfl rfl ?_
        refine vl_det (det_load_blk (by kernel_rfl) rfl (by repeat (first | exact .hd | apply Sel.tl)) rfl) rfl ?_
        refine vl_guard_t rfl rfl ?_
        refine vl_det (det_len_sl Try.underlying26 rfl) rfl ?_
        refine vl_guard_t rfl rfl ?_
        refine vl_det (det_fieldAddr_ Try.underlying29 rfl (by kernel_rfl) rfl rfl) rfl ?_
        refine vl_guard_t rfl rfl ?_
        refine vl_det (det_load_blk (by kernel_rfl) rfl (by repeat (first | exact .hd | apply Sel.tl)) rfl) rfl ?_
        refine vl_guard_t rfl rfl ?_
        refine vl_det (det_len_sl Try.underlying27 rfl) rfl ?_
        refine vl_guard_t rfl rfl ?_
        refine vl_det (det_neq rfl rfl) rfl ?_
        refine vl_det (det_pick_f rfl rfl) rfl ?_
        refine vl_det (det_move rfl) rfl ?_
        refine vl_guardn rfl rfl rfl (fun h21 => ?_) (fun h21 => ?_)
        · skip
          refine vl_det (det_fieldAddr_ Try.underlying29 rfl (by kernel_rfl) rfl rfl) rfl ?_
          refine vl_guard_t rfl rfl ?_
          refine vl_det (det_load_blk (by kernel_rfl) rfl (by repeat (first | exact .hd | apply Sel.tl)) rfl) rfl ?_
          refine vl_guard_t rfl rfl ?_
          refine vl_call co43 rfl (rmayT_d (by first | (exact Bor.own (by repeat (first | exact List.Mem.head _ | apply List.Mem.tail))) | (repeat (first | assumption | apply Bor.cons))) (by omega)) rfl ?_
          rintro _ _ ⟨rfl, hLL⟩
          obtain rfl := hLL.symm
          refine vl_guard_t rfl rfl ?_
          refine vl_det (det_notd rfl) rfl ?_
          refine vl_det (det_pick_f rfl rfl) rfl ?_
          exact vl_cut_end ⟨rfl, rfl, trivial⟩ (by first | rfl | exact bool_to_t (by first | exact .inl (by omega) | exact ⟨fun z => .inr z, fun q => q.elim (fun z => by omega) (fun z => z)⟩) | exact bool_to_f (by first | exact .inl (by omega) | exact ⟨fun z => .inr z, fun q => q.elim (fun z => by omega) (fun z => z)⟩) | exact bool_to (by first | exact .inl (by omega) | exact ⟨fun z => .inr z, fun q => q.elim (fun z => by omega) (fun z => z)⟩) | exact bool_to_b (by first | exact .inl (by omega) | exact ⟨fun z => .inr z, fun q => q.elim (fun z => by omega) (fun z => z)⟩))
        · skip
          refine vl_guard_f rfl rfl rfl rfl ?_
          refine vl_guard_f rfl rfl rfl rfl ?_
          refine vl_guard_f rfl rfl rfl rfl ?_
          refine vl_det (det_pick_t rfl rfl) rfl ?_
          exact vl_cut_end ⟨rfl, rfl, trivial⟩ (by first | rfl | exact bool_to_t (by first | exact .inl (by omega) | exact ⟨fun z => .inr z, fun q => q.elim (fun z => by omega) (fun z => z)⟩) | exact bool_to_f (by first | exact .inl (by omega) | exact ⟨fun z => .inr z, fun q => q.elim (fun z => by omega) (fun z => z)⟩) | exact bool_to (by first | exact .inl (by omega) | exact ⟨fun z => .inr z, fun q => q.elim (fun z => by omega) (fun z => z)⟩) | exact bool_to_b (by first | exact .inl (by omega) | exact ⟨fun z => .inr z, fun q => q.elim (fun z => by omega) (fun z => z)⟩))
      · skip
        refine vl_guard_f rfl rfl rfl rfl ?_
        refine vl_guard_f rfl rfl rfl rfl ?_
        refine vl_guard_f rfl rfl rfl rfl ?_
        refine vl_guard_f rfl rfl rfl rfl ?_
        refine vl_guard_f rfl rfl rfl rfl ?_
        refine vl_guard_f rfl rfl rfl rfl ?_
        refine vl_det (det_pick_t rfl rfl) rfl ?_
        refine vl_det (det_move rfl) rfl ?_
        refine vl_guard_f rfl rfl rfl rfl ?_
        refine vl_guard_f rfl rfl rfl rfl ?_
        refine vl_guard_f rfl rfl rfl rfl ?_
        refine vl_guard_f rfl rfl rfl rfl ?_
        refine vl_det (det_pick_t rfl rfl) rfl ?_
        exact vl_cut_end ⟨rfl, rfl, trivial⟩ (by first | rfl | exact bool_to_t (by first | exact .inl (by omega) | exact ⟨fun z => .inr z, fun q => q.elim (fun z => by omega) (fun z => z)⟩) | exact bool_to_f (by first | exact .inl (by omega) | exact ⟨fun z => .inr z, fun q => q.elim (fun z => by omega) (fun z => z)⟩) | exact bool_to (by first | exact .inl (by omega) | exact ⟨fun z => .inr z, fun q => q.elim (fun z => by omega) (fun z => z)⟩) | exact bool_to_b (by first | exact .inl (by omega) | exact ⟨fun z => .inr z, fun q => q.elim (fun z => by omega) (fun z => z)⟩))
    · skip
      refine vl_guard_f rfl rfl rfl rfl ?_
      refine vl_det (det_pick_t rfl rfl) rfl ?_
      refine vl_det (det_move rfl) rfl ?_
      refine vl_guard_f rfl rfl rfl rfl ?_
      refine vl_guard_f rfl rfl rfl rfl ?_
      refine vl_guard_f rfl rfl rfl rfl ?_
      refine vl_guard_f rfl rfl rfl rfl ?_
      refine vl_guard_f rfl rfl rfl rfl ?_
      refine vl_guard_f rfl rfl rfl rfl ?_
      refine vl_guard_f rfl rfl rfl rfl ?_
      refine vl_det (det_pick_t rfl rfl) rfl ?_
      refine vl_det (det_move rfl) rfl ?_
      refine vl_guard_f rfl rfl rfl rfl ?_
      refine vl_guard_f rfl rfl rfl rfl ?_
      refine vl_guard_f rfl rfl rfl rfl ?_
      refine vl_guard_f rfl rfl rfl rfl ?_
      refine vl_det (det_pick_t rfl rfl) rfl ?_
      exact vl_cut_end ⟨rfl, rfl, trivial⟩ (by first | rfl | exact bool_to_t (by first | exact .inl (by omega) | exact ⟨fun z => .inr z, fun q => q.elim (fun z => by omega) (fun z => z)⟩) | exact bool_to_f (by first | exact .inl (by omega) | exact ⟨fun z => .inr z, fun q => q.elim (fun z => by omega) (fun z => z)⟩) | exact bool_to (by first | exact .inl (by omega) | exact ⟨fun z => .inr z, fun q => q.elim (fun z => by omega) (fun z => z)⟩) | exact bool_to_b (by first | exact .inl (by omega) | exact ⟨fun z => .inr z, fun q => q.elim (fun z => by omega) (fun z => z)⟩))
  · skip
    refine vl_end [(0, _), (3, _), (26, _)] ⟨rfl, rfl, rfl, trivial⟩ ?_
    refine then_next ?_
    refine vc_decideU rfl (fun h26 => ?_) (fun h26 => ?_)
    · skip
      refine vc_seq ?_
      refine vc_region ?_
      refine vl_det (det_assign rfl) rfl ?_
      refine vl_end [(4, _)] ⟨rfl, trivial⟩ ?_
      refine then_next ?_
      refine vc_ret ?_
      refine then_ret ?_
      refine ret_wk (L' := F) (.skip (.refl _)) ?_
      refine ret1 rfl rfl ?_
      exact ⟨by rw [decide_eq_false]; intro q; have q1 := q.1; have q2 := q.2.1; exact h26.elim (fun z => by omega) (fun z => z q.2.2.1), rfl⟩
    · skip
      refine vc_skip ?_
      refine then_next ?_
      refine vc_seq ?_
      refine vc_seq ?_
      refine vc_region ?_
      refine vl_det (det_assign rfl) rfl ?_
      refine vl_end [(0, _), (3, _), (5, _)] ⟨rfl, rfl, rfl, trivial⟩ ?_
      refine then_next ?_
      refine vc_block ?_
      refine vc_loopJ (fun zf zL zm => ∃ (k : Nat), (k ≤ LL.length ∧ (∀ i, i < k → (LL.getD i iNil).2.2 ≠ [] ∧ Ris bound (LL.getD i iNil).2.2)) ∧ LL.length - k = zm ∧ Sub zf [(0, .int .i64 bound), (3, .pointer (some ⟨g3, 0, none⟩)), (5, .int .i64 k)] ∧ Wk zL (.blk g3 29 [.slice A1 T.length c1, .slice B1 LL.length b1] :: F)) _ ⟨0, ⟨Nat.zero_le _, fun i h => absurd h (by omega)⟩, rfl, ⟨(by first | rfl | exact int_to (by omega) | exact sl_to (by omega)), (by first | rfl | exact int_to (by omega) | exact sl_to (by omega)), (by first | rfl | exact int_to (by omega) | exact sl_to (by omega)), trivial⟩, .refl _⟩ ?_
      rintro _ _ _ ⟨k, ⟨hk, hall⟩, rfl, hs, hp⟩
      refine vc_weaken _ hs (vc_wk hp ?_)
      clear hs hp
      refine vc_seq ?_
      refine vc_seq ?_
      refine vc_region ?_
      refine vl_det (det_move rfl) rfl ?_
      refine vl_det (det_fieldAddr_ Try.underlying29 rfl (by kernel_rfl) rfl rfl) rfl ?_
      refine vl_det (det_load_blk (by kernel_rfl) rfl (by repeat (first | exact .hd | apply Sel.tl)) rfl) rfl ?_
      refine vl_det (det_len_sl Try.underlying27 rfl) rfl ?_
      refine vl_det (det_lss rfl rfl) rfl ?_
      refine vl_end [(0, _), (3, _), (5, _), (31, _)] ⟨rfl, rfl, rfl, rfl, trivial⟩ ?_
      refine then_next ?_
      refine vc_decideU rfl (fun h31 => ?_) (fun h31 => ?_)
      · skip
        have hkl : k < LL.length := by omega
        have hie := (hI.get hkl)
        have hxl := hs3 _ (getD_mem hkl iNil)
        have hmem : (LL.getD k iNil).2.2 ∈ idsI LL := List.mem_map_of_mem (getD_mem hkl iNil)
        obtain ⟨x, hx⟩ : ∃ x, x = (LL.getD k iNil).2.2 := ⟨_, rfl⟩
        have hig := iget hkl
        obtain ⟨eA, ec, he⟩ : ∃ eA ec, LL.getD k iNil = (eA, ec, x) := ⟨_, _, by rw [hx]⟩
        rw [he] at hie hxl hmem hig
        refine vc_skip ?_
        refine then_next ?_
        refine vc_seq ?_
        refine vc_block ?_
        refine vc_seq ?_
        refine vc_region ?_
        refine vl_cut 17 50 [(0, _), (3, _), (5, _)] ((x.length : Int) = 0 ∨ ¬ Ris bound x) ⟨rfl, rfl, rfl, trivial⟩ ?_ ?_
        · skip
          refine vl_det (det_fieldAddr_ Try.underlying29 rfl (by kernel_rfl) rfl rfl) rfl ?_
          refine vl_det (det_load_blk (by kernel_rfl) rfl (by repeat (first | exact .hd | apply Sel.tl)) rfl) rfl ?_
          refine vl_det (det_move rfl) rfl ?_
          refine vl_det (det_indexAddr (size := 1) Try.underlying27 (by kernel_rfl) rfl rfl rfl (by omega) (by first | (exact Bor.own (by repeat (first | exact List.Mem.head _ | apply List.Mem.tail))) | (repeat (first | assumption | apply Bor.cons)))) rfl ?_
          refine vl_det (det_load_row (by kernel_rfl) rfl (by first | (exact Bor.own (by repeat (first | exact List.Mem.head _ | apply List.Mem.tail))) | (repeat (first | assumption | apply Bor.cons))) (by omega) hig) rfl ?_
          refine vl_det (det_len_sl Try.underlying37 rfl) rfl ?_
          refine vl_det (det_eql rfl rfl) rfl ?_
          refine vl_det (det_move rfl) rfl ?_
          refine vl_guardn rfl rfl rfl (fun h41 => ?_) (fun h41 => ?_)
          · skip
            refine vl_det (det_move rfl) rfl ?_
            refine vl_guard_t rfl rfl ?_
            refine vl_det (det_fieldAddr_ Try.underlying29 rfl (by kernel_rfl) rfl rfl) rfl ?_
            refine vl_guard_t rfl rfl ?_
            refine vl_det (det_load_blk (by kernel_rfl) rfl (by repeat (first | exact .hd | apply Sel.tl)) rfl) rfl ?_
            refine vl_guard_t rfl rfl ?_
            refine vl_det (det_move rfl) rfl ?_
            refine vl_guard_t rfl rfl ?_
            refine vl_det (det_indexAddr (size := 1) Try.underlying27 (by kernel_rfl) rfl rfl rfl (by omega) (by first | (exact Bor.own (by repeat (first | exact List.Mem.head _ | apply List.Mem.tail))) | (repeat (first | assumption | apply Bor.cons)))) rfl ?_
            refine vl_guard_t rfl rfl ?_
            refine vl_det (det_load_row (by kernel_rfl) rfl (by first | (exact Bor.own (by repeat (first | exact List.Mem.head _ | apply List.Mem.tail))) | (repeat (first | assumption | apply Bor.cons))) (by omega) hig) rfl ?_
            refine vl_guard_t rfl rfl ?_
            refine vl_call co44 rfl (may_d bound x (by first | (exact Bor.own (by repeat (first | exact List.Mem.head _ | apply List.Mem.tail))) | (repeat (first | assumption | apply Bor.cons))) hxl) rfl ?_
            rintro _ _ ⟨rfl, hLL⟩
            obtain rfl := hLL.symm
            refine vl_guard_t rfl rfl ?_
            refine vl_det (det_notd rfl) rfl ?_
            refine vl_det (det_pick_f rfl rfl) rfl ?_
            exact vl_cut_end ⟨rfl, rfl, rfl, trivial⟩ (by first | rfl | exact bool_to_t (by first | exact .inl (by assumption) | exact ⟨fun z => .inr (by simpa using z), fun q => q.elim (fun z => absurd z (by assumption)) (fun z => by simpa using z)⟩) | exact bool_to_f (by first | exact .inl (by assumption) | exact ⟨fun z => .inr (by simpa using z), fun q => q.elim (fun z => absurd z (by assumption)) (fun z => by simpa using z)⟩) | exact bool_to (by first | exact .inl (by assumption) | exact ⟨fun z => .inr (by simpa using z), fun q => q.elim (fun z => absurd z (by assumption)) (fun z => by simpa using z)⟩) | exact bool_to_b (by first | exact .inl (by assumption) | exact ⟨fun z => .inr (by simpa using z), fun q => q.elim (fun z => absurd z (by assumption)) (fun z => by simpa using z)⟩))
          · skip
            refine vl_guard_f rfl rfl rfl rfl ?_
            refine vl_guard_f rfl rfl rfl rfl ?_
            refine vl_guard_f rfl rfl rfl rfl ?_
            refine vl_guard_f rfl rfl rfl rfl ?_
            refine vl_guard_f rfl rfl rfl rfl ?_
            refine vl_guard_f rfl rfl rfl rfl ?_
            refine vl_guard_f rfl rfl rfl rfl ?_
            refine vl_det (det_pick_t rfl rfl) rfl ?_
            exact vl_cut_end ⟨rfl, rfl, rfl, trivial⟩ (by first | rfl | exact bool_to_t (by first | exact .inl (by assumption) | exact ⟨fun z => .inr (by simpa using z), fun q => q.elim (fun z => absurd z (by assumption)) (fun z => by simpa using z)⟩) | exact bool_to_f (by first | exact .inl (by assumption) | exact ⟨fun z => .inr (by simpa using z), fun q => q.elim (fun z => absurd z (by assumption)) (fun z => by simpa using z)⟩) | exact bool_to (by first | exact .inl (by assumption) | exact ⟨fun z => .inr (by simpa using z), fun q => q.elim (fun z => absurd z (by assumption)) (fun z => by simpa using z)⟩) | exact bool_to_b (by first | exact .inl (by assumption) | exact ⟨fun z => .inr (by simpa using z), fun q => q.elim (fun z => absurd z (by assumption)) (fun z => by simpa using z)⟩))
        · skip
          refine vl_end [(0, _), (3, _), (5, _), (50, _)] ⟨rfl, rfl, rfl, rfl, trivial⟩ ?_
          refine then_next ?_
          refine vc_decideU rfl (fun h50 => ?_) (fun h50 => ?_)
          · skip
            refine vc_seq ?_
            refine vc_region ?_
            refine vl_det (det_assign rfl) rfl ?_
            refine vl_end [(4, _)] ⟨rfl, trivial⟩ ?_
            refine then_next ?_
            refine vc_ret ?_
            refine in_ret ?_
            refine then_ret ?_
            refine loop_ret ?_
            refine in_ret ?_
            refine then_ret ?_
            refine ret_wk (L' := F) (.skip (.refl _)) ?_
            refine ret1 rfl rfl ?_
            exact ⟨by
              rw [decide_eq_false]
              intro q
              obtain ⟨q1, q2⟩ := q.2.2.2 x hmem
              exact h50.elim (fun z => q1 (List.eq_nil_of_length_eq_zero (by omega))) (fun z => z q2), rfl⟩
          · skip
            refine vc_skip ?_
            refine in_normal ?_
            refine then_next ?_
            refine vc_region ?_
            refine vl_det (det_move rfl) rfl ?_
            refine vl_det (det_add rfl rfl (w_i64 (by omega) (by omega))) rfl ?_
            refine vl_det (det_assign rfl) rfl ?_
            refine vl_end [(0, _), (3, _), (5, _)] ⟨rfl, rfl, rfl, trivial⟩ ?_
            refine in_loop_ ⟨_, by omega, k + 1, ⟨by omega, fun i hi => by
  rcases Nat.lt_or_ge i k with h | h
  · exact hall i h
  · rw [show i = k by omega, he]; exact ⟨fun q => h50 (.inl (by rw [show x = [] from q]; rfl)), Classical.not_not.1 fun q => h50 (.inr q)⟩⟩, rfl, ⟨(by first | rfl | exact int_to (by omega) | exact sl_to (by omega)), (by first | rfl | exact int_to (by omega) | exact sl_to (by omega)), (by first | rfl | exact int_to (by omega) | exact sl_to (by omega)), trivial⟩, .refl _⟩
      · skip
        refine vc_exit ?_
        refine then_exit ?_
        refine loop_exit ?_
        refine in_eq ?_
        refine then_next ?_
        refine vc_seq ?_
        refine vc_region ?_
        refine vl_det (det_assign rfl) rfl ?_
        refine vl_end [(4, _)] ⟨rfl, trivial⟩ ?_
        refine then_next ?_
        refine vc_ret ?_
        refine ret_wk (L' := F) (.skip (.refl _)) ?_
        refine ret1 rfl rfl ?_
        exact ⟨by
          obtain rfl : k = LL.length := by omega
          rw [decide_eq_true]
          refine ⟨⟨by omega, by omega⟩, by omega, Classical.not_not.1 fun z => h26 (.inr z), fun x hx => ?_⟩
          obtain ⟨i, hi, rfl⟩ := idsI_mem hx
          exact hall i hi, rfl⟩
theorem lsB_succ {k : Nat} (hk : k < LL.length) : lsB bound ((idsI LL).take (k + 1)) = lsB bound ((idsI LL).take k) ++ (efW bound (LL.getD k iNil).2.2).1 := by
  rw [idsI_get hk]; unfold lsB; rw [List.flatMap_append]; simp
theorem idxW_tn {I : List (List Int)} {m : Nat} (hm : I.length = m) (h1 : 1 ≤ size) (h2 : size ≤ 64) (h : idxOk bound T I) : idxW size bound T I = (dictB size.toNat T ++ lsB bound (I.take m), 0) := by
  rw [List.take_of_length_le (by omega)]
  unfold idxW
  rw [if_neg (by rintro (q | q | q); omega; omega; exact q h)]
  rfl
theorem rbytes18_d (h1 : Bor B w0 F 1 (.slice A1 T.length c1) T.length (strs T)) (hL : Bor B w0 F 1 (.slice B1 LL.length b1) LL.length (LL.map iVal)) (hI : LsBor B w0 F LL) (hs3 : ∀ e ∈ LL, e.2.2.length ≤ 9000000000000000000) (hs : T.length ≤ 1000000000) :
    Does Try.prog B w0 18 [.int .i64 size, .int .i64 bound, IdxA A1 T.length c1 B1 LL.length b1] F (fun r L => ∃ A' c', r = .tuple #[.slice A' (idxW size bound T (idsI LL)).1.length c', .int .i64 (idxW size bound T (idsI LL)).2] ∧ L = .own 5 1 A' (idxW size bound T (idsI LL)).1.length c' (bv (idxW size bound T (idsI LL)).1) :: F) := by
  have hil : (idsI LL).length = LL.length := by simp [idsI]
  have e0 : (dictB size.toNat T ++ lsB bound ((idsI LL).take 0)).length = (dictB size.toNat T).length := by simp [lsB]
  refine fn_walk Try.func18 53 rfl rfl rfl [(0, .int .i64 size), (1, .int .i64 bound), (2, IdxA A1 T.length c1 B1 LL.length b1)] ⟨⟨rfl, rfl⟩, ⟨rfl, rfl⟩, ⟨rfl, rfl⟩, trivial⟩ ?_
  refine vc_seq ?_
  refine vc_region ?_
  refine vl_eff (eff_box rfl rfl) rfl ?_
  rintro _ _ ⟨g5, rfl, rfl⟩
  refine vl_det (det_assign rfl) rfl ?_
  refine vl_det (det_assign rfl) rfl ?_
  refine vl_end [(0, _), (1, _), (5, _)] ⟨rfl, rfl, rfl, trivial⟩ ?_
  refine then_next ?_
  refine vc_seq ?_
  refine vc_seq ?_
  refine vc_region ?_
  refine vl_cut 12 24 [(0, _), (1, _), (5, _)] ((size < 1 ∨ 64 < size) ∨ ¬ idxOk bound T (idsI LL)) ⟨rfl, rfl, rfl, trivial⟩ ?_ ?_
  · skip
    refine vl_det (det_move rfl) rfl ?_
    refine vl_det (det_lss rfl rfl) rfl ?_
    refine vl_det (det_move rfl) rfl ?_
    refine vl_guardn rfl rfl rfl (fun h15 => ?_) (fun h15 => ?_)
    · skip
      refine vl_det (det_move rfl) rfl ?_
      refine vl_guard_t rfl rfl ?_
      refine vl_det (det_gtr rfl rfl) rfl ?_
      refine vl_det (det_pick_f rfl rfl) rfl ?_
      refine vl_det (det_move rfl) rfl ?_
      refine vl_guardn rfl rfl rfl (fun h19 => ?_) (fun h19 => ?_)
      · skip
        refine vl_det (det_move rfl) rfl ?_
        refine vl_guard_t rfl rfl ?_
        refine vl_det (det_load_whole 2 (by kernel_rfl) rfl (by repeat (first | exact .hd | apply Sel.tl)) (by first | rfl | (simp; omega) | (simp [*]; done))) rfl ?_
        refine vl_guard_t rfl rfl ?_
        refine vl_call co20 rfl (rmay18_d (by first | (exact Bor.own (by repeat (first | exact List.Mem.head _ | apply List.Mem.tail))) | (repeat (first | assumption | apply Bor.cons))) (by first | (exact Bor.own (by repeat (first | exact List.Mem.head _ | apply List.Mem.tail))) | (repeat (first | assumption | apply Bor.cons))) (hI.mono (List.sublist_append_right [_] F)) hs3 hs) rfl ?_
        rintro _ _ ⟨rfl, hLL⟩
        obtain rfl := hLL.symm
        refine vl_guard_t rfl rfl ?_
        refine vl_det (det_notd rfl) rfl ?_
        refine vl_det (det_pick_f rfl rfl) rfl ?_
        exact vl_cut_end ⟨rfl, rfl, rfl, trivial⟩ (by first | rfl | exact bool_to_t (by first | exact .inl (by omega) | exact ⟨fun z => .inr z, fun q => q.elim (fun z => by omega) (fun z => z)⟩) | exact bool_to_f (by first | exact .inl (by omega) | exact ⟨fun z => .inr z, fun q => q.elim (fun z => by omega) (fun z => z)⟩) | exact bool_to (by first | exact .inl (by omega) | exact ⟨fun z => .inr z, fun q => q.elim (fun z => by omega) (fun z => z)⟩) | exact bool_to_b (by first | exact .inl (by omega) | exact ⟨fun z => .inr z, fun q => q.elim (fun z => by omega) (fun z => z)⟩))
      · skip
        refine vl_guard_f rfl rfl rfl rfl ?_
        refine vl_guard_f rfl rfl rfl rfl ?_
        refine vl_guard_f rfl rfl rfl rfl ?_
        refine vl_det (det_pick_t rfl rfl) rfl ?_
        exact vl_cut_end ⟨rfl, rfl, rfl, trivial⟩ (by first | rfl | exact bool_to_t (by first | exact .inl (by omega) | exact ⟨fun z => .inr z, fun q => q.elim (fun z => by omega) (fun z => z)⟩) | exact bool_to_f (by first | exact .inl (by omega) | exact ⟨fun z => .inr z, fun q => q.elim (fun z => by omega) (fun z => z)⟩) | exact bool_to (by first | exact .inl (by omega) | exact ⟨fun z => .inr z, fun q => q.elim (fun z => by omega) (fun z => z)⟩) | exact bool_to_b (by first | exact .inl (by omega) | exact ⟨fun z => .inr z, fun q => q.elim (fun z => by omega) (fun z => z)⟩))
    · skip
      refine vl_guard_f rfl rfl rfl rfl ?_
      refine vl_det (det_pick_t rfl rfl) rfl ?_
      refine vl_det (det_move rfl) rfl ?_
      refine vl_guard_f rfl rfl rfl rfl ?_
      refine vl_guard_f rfl rfl rfl rfl ?_
      refine vl_guard_f rfl rfl rfl rfl ?_
      refine vl_guard_f rfl rfl rfl rfl ?_
      refine vl_det (det_pick_t rfl rfl) rfl ?_
      exact vl_cut_end ⟨rfl, rfl, rfl, trivial⟩ (by first | rfl | exact bool_to_t (by first | exact .inl (by omega) | exact ⟨fun z => .inr z, fun q => q.elim (fun z => by omega) (fun z => z)⟩) | exact bool_to_f (by first | exact .inl (by omega) | exact ⟨fun z => .inr z, fun q => q.elim (fun z => by omega) (fun z => z)⟩) | exact bool_to (by first | exact .inl (by omega) | exact ⟨fun z => .inr z, fun q => q.elim (fun z => by omega) (fun z => z)⟩) | exact bool_to_b (by first | exact .inl (by omega) | exact ⟨fun z => .inr z, fun q => q.elim (fun z => by omega) (fun z => z)⟩))
  · skip
    refine vl_end [(0, _), (1, _), (5, _), (24, _)] ⟨rfl, rfl, rfl, rfl, trivial⟩ ?_
    refine then_next ?_
    refine vc_decideU rfl (fun h24 => ?_) (fun h24 => ?_)
    · skip
      refine vc_seq ?_
      refine vc_region ?_
      refine vl_det (det_assign rfl) rfl ?_
      refine vl_det (det_assign rfl) rfl ?_
      refine vl_end [(6, _), (7, _)] ⟨rfl, rfl, trivial⟩ ?_
      refine then_next ?_
      refine vc_ret ?_
      refine then_ret ?_
      rw [idxW_bad (by rcases h24 with (q | q) | q; exact .inl q; exact .inr (.inl q); exact .inr (.inr q))]
      refine ret_nil_row 5 1 none ?_
      refine ret_wk (L' := .own 5 1 none 0 0 [] :: F) (.cons (.skip (.refl _))) ?_
      refine ret2 rfl rfl rfl ?_
      exact ⟨none, 0, rfl, rfl⟩
    · skip
      have hok : idxOk bound T (idsI LL) := Classical.not_not.1 fun q => h24 (.inr q)
      have hb0 := hok.1.1
      have hb1 := hok.1.2
      have hR := hok.2.2.1
      have hTl := hR.2
      have hdl := dictB_len hR (sz := size.toNat) (by omega) (by omega)
      have hlT := hok.2.1
      refine vc_skip ?_
      refine then_next ?_
      refine vc_seq ?_
      refine vc_region ?_
      refine vl_det (det_move rfl) rfl ?_
      refine vl_det (det_fieldAddr_ Try.underlying29 rfl (by kernel_rfl) rfl rfl) rfl ?_
      refine vl_det (det_load_blk (by kernel_rfl) rfl (by repeat (first | exact .hd | apply Sel.tl)) rfl) rfl ?_
      refine vl_call co41 rfl (rdwrite_t (by first | (exact Bor.own (by repeat (first | exact List.Mem.head _ | apply List.Mem.tail))) | (repeat (first | assumption | apply Bor.cons))) (by omega) (by omega) hR) rfl ?_
      rintro _ _ ⟨A29, c29, rfl, hLL⟩
      obtain rfl := hLL.symm
      refine vl_det (det_move rfl) rfl ?_
      refine vl_det (det_extract rfl rfl) rfl ?_
      refine vl_det (det_extract rfl rfl) rfl ?_
      refine vl_det (det_assign rfl) rfl ?_
      refine vl_det (det_assign rfl) rfl ?_
      refine vl_end [(1, _), (5, _), (8, _)] ⟨rfl, rfl, rfl, trivial⟩ ?_
      refine then_next ?_
      refine vc_seq ?_
      refine vc_seq ?_
      refine vc_region ?_
      refine vl_det (det_assign rfl) rfl ?_
      refine vl_end [(1, _), (5, _), (8, _), (10, _)] ⟨rfl, rfl, rfl, rfl, trivial⟩ ?_
      refine then_next ?_
      refine vc_block ?_
      refine vc_loopJ (fun zf zL zm => ∃ (k : Nat) (A8 : Option Addr) (c8 : Nat), (k ≤ LL.length) ∧ LL.length - k = zm ∧ Sub zf [(1, .int .i64 bound), (5, .pointer (some ⟨g5, 0, none⟩)), (8, .slice A8 (dictB size.toNat T ++ lsB bound ((idsI LL).take k)).length c8), (10, .int .i64 k)] ∧ Wk zL (.own 5 1 A8 (dictB size.toNat T ++ lsB bound ((idsI LL).take k)).length c8 (bv (dictB size.toNat T ++ lsB bound ((idsI LL).take k))) :: .blk g5 29 [.slice A1 T.length c1, .slice B1 LL.length b1] :: F)) _ ⟨0, A29, c29, Nat.zero_le _, rfl, ⟨(by first | rfl | exact int_to (by omega) | exact sl_to (by omega)), (by first | rfl | exact int_to (by omega) | exact sl_to (by omega)), (by first | rfl | exact int_to (by omega) | exact sl_to (by omega)), (by first | rfl | exact int_to (by omega) | exact sl_to (by omega)), trivial⟩, wk_own (by simp [lsB]) (by simp [lsB]) (.refl _)⟩ ?_
      rintro _ _ _ ⟨k, A8, c8, hk, rfl, hs, hp⟩
      refine vc_weaken _ hs (vc_wk hp ?_)
      clear hs hp
      refine vc_seq ?_
      refine vc_seq ?_
      refine vc_region ?_
      refine vl_det (det_move rfl) rfl ?_
      refine vl_det (det_fieldAddr_ Try.underlying29 rfl (by kernel_rfl) rfl rfl) rfl ?_
      refine vl_det (det_load_blk (by kernel_rfl) rfl (by repeat (first | exact .hd | apply Sel.tl)) rfl) rfl ?_
      refine vl_det (det_len_sl Try.underlying27 rfl) rfl ?_
      refine vl_det (det_lss rfl rfl) rfl ?_
      refine vl_end [(1, _), (5, _), (8, _), (10, _), (36, _)] ⟨rfl, rfl, rfl, rfl, rfl, trivial⟩ ?_
      refine then_next ?_
      refine vc_decideU rfl (fun h36 => ?_) (fun h36 => ?_)
      · skip
        have hkl : k < LL.length := by omega
        have hie := (hI.get hkl)
        have hxl := hs3 _ (getD_mem hkl iNil)
        have hst := lsB_succ (bound := bound) hkl
        have hll := lsB_len hb0 hb1 ((idsI LL).take k)
        have hlk : ((idsI LL).take k).length ≤ k := by simp; omega
        have hlm := Nat.mul_le_mul_right 50011 (Nat.le_trans hlk hk)
        have hlm2 : LL.length * 50011 ≤ 1048576 * 50011 := Nat.mul_le_mul_right _ (by omega)
        obtain ⟨x, hx⟩ : ∃ x, x = (LL.getD k iNil).2.2 := ⟨_, rfl⟩
        have hxw := efW_len (x := x) hb0 hb1
        have hig := iget hkl
        obtain ⟨eA, ec, he⟩ : ∃ eA ec, LL.getD k iNil = (eA, ec, x) := ⟨_, _, by rw [hx]⟩
        rw [he] at hie hxl hig hst
        have hol : (dictB size.toNat T ++ lsB bound ((idsI LL).take k)).length ≤ 100000000000 := by rw [List.length_append]; omega
        obtain ⟨o, ho⟩ : ∃ o, o = dictB size.toNat T ++ lsB bound ((idsI LL).take k) := ⟨_, rfl⟩
        rw [← ho] at hol ⊢
        refine vc_skip ?_
        refine then_next ?_
        refine vc_seq ?_
        refine vc_block ?_
        refine vc_seq ?_
        refine vc_region ?_
        refine vl_det (det_move rfl) rfl ?_
        refine vl_det (det_fieldAddr_ Try.underlying29 rfl (by kernel_rfl) rfl rfl) rfl ?_
        refine vl_det (det_load_blk (by kernel_rfl) rfl (by repeat (first | exact .hd | apply Sel.tl)) rfl) rfl ?_
        refine vl_det (det_move rfl) rfl ?_
        refine vl_det (det_indexAddr (size := 1) Try.underlying27 (by kernel_rfl) rfl rfl rfl (by omega) (by first | (exact Bor.own (by repeat (first | exact List.Mem.head _ | apply List.Mem.tail))) | (repeat (first | assumption | apply Bor.cons)))) rfl ?_
        refine vl_det (det_load_row (by kernel_rfl) rfl (by first | (exact Bor.own (by repeat (first | exact List.Mem.head _ | apply List.Mem.tail))) | (repeat (first | assumption | apply Bor.cons))) (by omega) hig) rfl ?_
        refine vl_call co42 rfl (rwrite_d (ids := x) (by first | (exact Bor.own (by repeat (first | exact List.Mem.head _ | apply List.Mem.tail))) | (repeat (first | assumption | apply Bor.cons))) hxl) rfl ?_
        rintro _ _ ⟨A46, c46, rfl, hLL⟩
        obtain rfl := hLL.symm
        refine vl_det (det_move rfl) rfl ?_
        refine vl_det (det_extract rfl rfl) rfl ?_
        refine vl_det (det_extract rfl rfl) rfl ?_
        refine vl_det (det_assign rfl) rfl ?_
        refine vl_det (det_assign rfl) rfl ?_
        refine vl_end [(1, _), (5, _), (8, _), (10, _), (11, _)] ⟨rfl, rfl, rfl, rfl, rfl, trivial⟩ ?_
        refine then_next ?_
        refine vc_region ?_
        refine vl_det (det_move rfl) rfl ?_
        refine vl_det (det_move rfl) rfl ?_
        refine vl_eff (eff_app slT41 rfl (by repeat (first | exact .hd | apply Sel.tl)) rfl (by first | (exact Bor.own (by repeat (first | exact List.Mem.head _ | apply List.Mem.tail))) | (repeat (first | assumption | apply Bor.cons))) (by first | exact bv_one _ | exact strs_one _ | exact ints_one _ _ | (simp; done) | (simp [Value.oneCell']; done) | assumption) (by omega) (by omega)) rfl ?_
        rintro _ _ ⟨A51, c51, rfl, rfl⟩
        refine vl_det (det_assign rfl) rfl ?_
        refine vl_end [(1, _), (5, _), (8, _), (10, _)] ⟨rfl, rfl, rfl, rfl, trivial⟩ ?_
        refine in_normal ?_
        refine then_next ?_
        refine vc_region ?_
        refine vl_det (det_move rfl) rfl ?_
        refine vl_det (det_add rfl rfl (w_i64 (by omega) (by omega))) rfl ?_
        refine vl_det (det_assign rfl) rfl ?_
        refine vl_end [(1, _), (5, _), (8, _), (10, _)] ⟨rfl, rfl, rfl, rfl, trivial⟩ ?_
        have hel : dictB size.toNat T ++ lsB bound ((idsI LL).take (k + 1)) = o ++ (efW bound x).1 := by rw [hst, ho, List.append_assoc]
        have hell : (dictB size.toNat T ++ lsB bound ((idsI LL).take (k + 1))).length = o.length + (efW bound x).1.length := by rw [hel, List.length_append]
        refine in_loop_ ⟨_, by omega, k + 1, A51, c51, by omega, rfl, ⟨(by first | rfl | exact int_to (by omega) | exact sl_to (by omega)), (by first | rfl | exact int_to (by omega) | exact sl_to (by omega)), (by first | rfl | exact int_to (by omega) | exact sl_to (by omega)), (by first | rfl | exact int_to (by omega) | exact sl_to (by omega)), trivial⟩, .skip (wk_own hell.symm (by rw [hel, bv_append]) (.refl _))⟩
      · skip
        obtain rfl : k = LL.length := by omega
        refine vc_exit ?_
        refine then_exit ?_
        refine loop_exit ?_
        refine in_eq ?_
        refine then_next ?_
        refine vc_seq ?_
        refine vc_region ?_
        refine vl_det (det_move rfl) rfl ?_
        refine vl_det (det_assign rfl) rfl ?_
        refine vl_det (det_assign rfl) rfl ?_
        refine vl_end [(6, _), (7, _)] ⟨rfl, rfl, trivial⟩ ?_
        refine then_next ?_
        refine vc_ret ?_
        have hW : idxW size bound T (idsI LL) = (dictB size.toNat T ++ lsB bound ((idsI LL).take LL.length), 0) := idxW_tn hil (by omega) (by omega) hok
        rw [hW]
        refine ret_wk (L' := .own 5 1 A8 (dictB size.toNat T ++ lsB bound ((idsI LL).take LL.length)).length c8 (bv (dictB size.toNat T ++ lsB bound ((idsI LL).take LL.length))) :: F) (.cons (.skip (.refl _))) ?_
        refine ret2 rfl rfl rfl ?_
        exact ⟨A8, c8, rfl, rfl⟩
theorem idxW_1 {I : List (List Int)} : (idxW 1 bound T I).2 = 0 ↔ idxOk bound T I := by
  by_cases h : idxOk bound T I
  · rw [show (1 : Int) = ((1 : Nat) : Int) from rfl, idxW_ok (by omega) (by omega) h]; simp [h]
  · rw [idxW_bad (.inr (.inr h))]; simp [h]
theorem pmay_d (h1 : Bor B w0 F 1 (.slice A1 T.length c1) T.length (strs T)) (hL : Bor B w0 F 1 (.slice B1 LL.length b1) LL.length (LL.map iVal)) (hI : LsBor B w0 F LL) (hs3 : ∀ e ∈ LL, e.2.2.length ≤ 9000000000000000000) (hs : T.length ≤ 1000000000) :
    Does Try.prog B w0 21 [.int .i64 bound, IdxA A1 T.length c1 B1 LL.length b1] F (fun r L => r = .bool (decide (idxOk bound T (idsI LL))) ∧ L = F) := by
  refine fn_walk Try.func21 15 rfl rfl rfl [(0, .int .i64 bound), (1, IdxA A1 T.length c1 B1 LL.length b1)] ⟨⟨rfl, rfl⟩, ⟨rfl, rfl⟩, trivial⟩ ?_
  refine vc_seq ?_
  refine vc_region ?_
  refine vl_eff (eff_box rfl rfl) rfl ?_
  rintro _ _ ⟨g3, rfl, rfl⟩
  refine vl_det (det_assign rfl) rfl ?_
  refine vl_end [(0, _), (3, _)] ⟨rfl, rfl, trivial⟩ ?_
  refine then_next ?_
  refine vc_seq ?_
  refine vc_region ?_
  refine vl_det (det_move rfl) rfl ?_
  refine vl_det (det_load_whole 2 (by kernel_rfl) rfl (by repeat (first | exact .hd | apply Sel.tl)) (by first | rfl | (simp; omega) | (simp [*]; done))) rfl ?_
  refine vl_call co17 rfl (pbytes_d (by first | (exact Bor.own (by repeat (first | exact List.Mem.head _ | apply List.Mem.tail))) | (repeat (first | assumption | apply Bor.cons))) (by first | (exact Bor.own (by repeat (first | exact List.Mem.head _ | apply List.Mem.tail))) | (repeat (first | assumption | apply Bor.cons))) (hI.mono (List.sublist_append_right [_] F)) hs3 hs) rfl ?_
  rintro _ _ ⟨A10, c10, rfl, hLL⟩
  obtain rfl := hLL.symm
  refine vl_det (det_move rfl) rfl ?_
  refine vl_det (det_extract rfl rfl) rfl ?_
  refine vl_det (det_extract rfl rfl) rfl ?_
  refine vl_det (det_assign rfl) rfl ?_
  refine vl_det (det_assign rfl) rfl ?_
  refine vl_end [(6, _)] ⟨rfl, trivial⟩ ?_
  refine then_next ?_
  refine vc_seq ?_
  refine vc_region ?_
  refine vl_det (det_move rfl) rfl ?_
  refine vl_det (det_eql rfl rfl) rfl ?_
  refine vl_det (det_assign rfl) rfl ?_
  refine vl_end [(4, _)] ⟨rfl, trivial⟩ ?_
  refine then_next ?_
  refine vc_ret ?_
  refine ret_wk (L' := F) (.skip (.skip (.refl _))) ?_
  refine ret1 rfl rfl ?_
  exact ⟨by rw [decide_eq_decide.2 idxW_1], rfl⟩
theorem eqf_d {L1 L2 : List LsI} (hL1 : Bor B w0 F 1 (.slice B1 L1.length b1) L1.length (L1.map iVal)) (hI1 : LsBor B w0 F L1) (hL2 : Bor B w0 F 1 (.slice B2 L2.length b2) L2.length (L2.map iVal)) (hI2 : LsBor B w0 F L2) (hs2 : L1.length ≤ 1000000000) (hs3 : ∀ e ∈ L1, e.2.2.length ≤ 9223372036854775807) :
    Does Try.prog B w0 46 [.slice B1 L1.length b1, .slice B2 L2.length b2, .func (.func 47) #[] #[]] F (fun r L => r = .bool (decide (idsI L1 = idsI L2)) ∧ L = F) := by
  refine fn_walk Try.func46 32 rfl rfl rfl [(0, .slice B1 L1.length b1), (1, .slice B2 L2.length b2), (2, .func (.func 47) #[] #[])] ⟨⟨rfl, rfl⟩, ⟨rfl, rfl⟩, ⟨rfl, rfl⟩, trivial⟩ ?_
  refine vc_seq ?_
  refine vc_region ?_
  refine vl_det (det_assign rfl) rfl ?_
  refine vl_end [(0, _), (1, _), (2, _)] ⟨rfl, rfl, rfl, trivial⟩ ?_
  refine then_next ?_
  refine vc_seq ?_
  refine vc_seq ?_
  refine vc_region ?_
  refine vl_det (det_move rfl) rfl ?_
  refine vl_det (det_len_sl Try.underlying27 rfl) rfl ?_
  refine vl_det (det_move rfl) rfl ?_
  refine vl_det (det_len_sl Try.underlying27 rfl) rfl ?_
  refine vl_det (det_neq rfl rfl) rfl ?_
  refine vl_end [(0, _), (1, _), (2, _), (14, _)] ⟨rfl, rfl, rfl, rfl, trivial⟩ ?_
  refine then_next ?_
  refine vc_decideU rfl (fun h14 => ?_) (fun h14 => ?_)
  · skip
    refine vc_seq ?_
    refine vc_region ?_
    refine vl_det (det_assign rfl) rfl ?_
    refine vl_end [(6, _)] ⟨rfl, trivial⟩ ?_
    refine then_next ?_
    refine vc_ret ?_
    refine then_ret ?_
    refine ret1 rfl rfl ?_
    exact ⟨by rw [decide_eq_false fun h => h14 (by have := congrArg List.length h; simp only [idsI, List.length_map] at this; omega)], rfl⟩
  · skip
    refine vc_skip ?_
    refine then_next ?_
    refine vc_seq ?_
    refine vc_seq ?_
    refine vc_region ?_
    refine vl_det (det_move rfl) rfl ?_
    refine vl_det (det_len_sl Try.underlying27 rfl) rfl ?_
    refine vl_det (det_move rfl) rfl ?_
    refine vl_end [(1, _), (2, _), (15, _), (16, _), (17, _)] ⟨rfl, rfl, rfl, rfl, rfl, trivial⟩ ?_
    refine then_next ?_
    refine vc_block ?_
    refine vc_loopJ (fun zf zL zm => ∃ (k : Nat), (k ≤ L1.length ∧ (idsI L1).take k = (idsI L2).take k) ∧ L1.length - k = zm ∧ Sub zf [(1, .slice B2 L2.length b2), (2, .func (.func 47) #[] #[]), (15, .slice B1 L1.length b1), (16, .int .i64 L1.length), (17, .int .i64 k)] ∧ Wk zL (F)) _ ⟨0, ⟨Nat.zero_le _, rfl⟩, rfl, ⟨(by first | rfl | exact int_to (by omega) | exact sl_to (by omega)), (by first | rfl | exact int_to (by omega) | exact sl_to (by omega)), (by first | rfl | exact int_to (by omega) | exact sl_to (by omega)), (by first | rfl | exact int_to (by omega) | exact sl_to (by omega)), (by first | rfl | exact int_to (by omega) | exact sl_to (by omega)), trivial⟩, .refl _⟩ ?_
    rintro _ _ _ ⟨k, ⟨hk, heq⟩, rfl, hs, hp⟩
    refine vc_weaken _ hs (vc_wk hp ?_)
    clear hs hp
    refine vc_seq ?_
    refine vc_region ?_
    refine vl_det (det_lss rfl rfl) rfl ?_
    refine vl_end [(1, _), (2, _), (15, _), (16, _), (17, _), (18, _)] ⟨rfl, rfl, rfl, rfl, rfl, rfl, trivial⟩ ?_
    refine then_next ?_
    refine vc_seq ?_
    refine vc_decideU rfl (fun h18 => ?_) (fun h18 => ?_)
    · skip
      have hk1 : k < L1.length := by omega
      have hk2 : k < L2.length := by omega
      have hi1 := hI1.get hk1
      have hi2 := hI2.get hk2
      have hl1 := hs3 _ (getD_mem hk1 iNil)
      refine vc_skip ?_
      refine then_next ?_
      refine vc_seq ?_
      refine vc_block ?_
      refine vc_seq ?_
      refine vc_region ?_
      refine vl_det (det_move rfl) rfl ?_
      refine vl_det (det_indexAddr (size := 1) Try.underlying27 (by kernel_rfl) rfl rfl rfl (by omega) (by first | (exact Bor.own (by repeat (first | exact List.Mem.head _ | apply List.Mem.tail))) | (repeat (first | assumption | apply Bor.cons)))) rfl ?_
      refine vl_det (det_load_row (by kernel_rfl) rfl (by first | (exact Bor.own (by repeat (first | exact List.Mem.head _ | apply List.Mem.tail))) | (repeat (first | assumption | apply Bor.cons))) (by omega) (iget hk1)) rfl ?_
      refine vl_det (det_assign rfl) rfl ?_
      refine vl_det (det_assign rfl) rfl ?_
      refine vl_end [(1, _), (2, _), (7, _), (8, _), (15, _), (16, _), (17, _)] ⟨rfl, rfl, rfl, rfl, rfl, rfl, rfl, trivial⟩ ?_
      refine then_next ?_
      refine vc_seq ?_
      refine vc_region ?_
      refine vl_det (det_move rfl) rfl ?_
      refine vl_det (det_move rfl) rfl ?_
      refine vl_det (det_indexAddr (size := 1) Try.underlying27 (by kernel_rfl) rfl rfl rfl (by omega) (by first | (exact Bor.own (by repeat (first | exact List.Mem.head _ | apply List.Mem.tail))) | (repeat (first | assumption | apply Bor.cons)))) rfl ?_
      refine vl_det (det_load_row (by kernel_rfl) rfl (by first | (exact Bor.own (by repeat (first | exact List.Mem.head _ | apply List.Mem.tail))) | (repeat (first | assumption | apply Bor.cons))) (by omega) (iget hk2)) rfl ?_
      refine vl_det (det_assign rfl) rfl ?_
      refine vl_end [(1, _), (2, _), (8, _), (9, _), (15, _), (16, _), (17, _)] ⟨rfl, rfl, rfl, rfl, rfl, rfl, rfl, trivial⟩ ?_
      refine then_next ?_
      refine vc_seq ?_
      refine vc_region ?_
      refine vl_det (det_move rfl) rfl ?_
      refine vl_det (det_move rfl) rfl ?_
      refine vl_det (det_move rfl) rfl ?_
      refine vl_callv (callable Try.func47 rfl rfl) rfl rfl (eqi_d (by first | (exact Bor.own (by repeat (first | exact List.Mem.head _ | apply List.Mem.tail))) | (repeat (first | assumption | apply Bor.cons))) (by first | (exact Bor.own (by repeat (first | exact List.Mem.head _ | apply List.Mem.tail))) | (repeat (first | assumption | apply Bor.cons))) hl1) rfl ?_
      rintro _ _ ⟨rfl, hLL⟩
      obtain rfl := hLL.symm
      refine vl_det (det_notd rfl) rfl ?_
      refine vl_end [(1, _), (2, _), (15, _), (16, _), (17, _), (30, _)] ⟨rfl, rfl, rfl, rfl, rfl, rfl, trivial⟩ ?_
      refine then_next ?_
      refine vc_decideU rfl (fun h30 => ?_) (fun h30 => ?_)
      · skip
        refine vc_seq ?_
        refine vc_region ?_
        refine vl_det (det_assign rfl) rfl ?_
        refine vl_end [(6, _)] ⟨rfl, trivial⟩ ?_
        refine then_next ?_
        refine vc_ret ?_
        refine in_ret ?_
        refine then_ret ?_
        refine loop_ret ?_
        refine in_ret ?_
        refine then_ret ?_
        refine ret1 rfl rfl ?_
        exact ⟨by
          rw [decide_eq_false]
          intro h
          refine h30 ?_
          have := congrArg (fun l => l.getD k []) h
          simpa [idsI, List.getD, List.getElem?_map, List.getElem?_eq_getElem hk1, List.getElem?_eq_getElem hk2] using this, rfl⟩
      · skip
        refine vc_skip ?_
        refine in_normal ?_
        refine then_next ?_
        refine vc_region ?_
        refine vl_det (det_add rfl rfl (w_i64 (by omega) (by omega))) rfl ?_
        refine vl_det (det_move rfl) rfl ?_
        refine vl_end [(1, _), (2, _), (15, _), (16, _), (17, _)] ⟨rfl, rfl, rfl, rfl, rfl, trivial⟩ ?_
        refine in_loop_ ⟨_, by omega, k + 1, ⟨by omega, ids_take heq hk1 hk2 (Classical.not_not.1 h30)⟩, rfl, ⟨(by first | rfl | exact int_to (by omega) | exact sl_to (by omega)), (by first | rfl | exact int_to (by omega) | exact sl_to (by omega)), (by first | rfl | exact int_to (by omega) | exact sl_to (by omega)), (by first | rfl | exact int_to (by omega) | exact sl_to (by omega)), (by first | rfl | exact int_to (by omega) | exact sl_to (by omega)), trivial⟩, .refl _⟩
    · skip
      refine vc_exit ?_
      refine then_exit ?_
      refine loop_exit ?_
      refine in_eq ?_
      refine then_next ?_
      refine vc_seq ?_
      refine vc_region ?_
      refine vl_det (det_assign rfl) rfl ?_
      refine vl_end [(6, _)] ⟨rfl, trivial⟩ ?_
      refine then_next ?_
      refine vc_ret ?_
      refine ret1 rfl rfl ?_
      exact ⟨by
        have h4 : idsI L1 = idsI L2 := by
          have := heq
          rwa [List.take_of_length_le (by simp only [idsI, List.length_map]; omega), List.take_of_length_le (by simp only [idsI, List.length_map]; omega)] at this
        rw [decide_eq_true h4], rfl⟩
theorem psame_d {T1 T2 : List Txt} {L1 L2 : List LsI} (h1 : Bor B w0 F 1 (.slice A1 T1.length c1) T1.length (strs T1)) (hL1 : Bor B w0 F 1 (.slice B1 L1.length b1) L1.length (L1.map iVal)) (hI1 : LsBor B w0 F L1)
    (h2 : Bor B w0 F 1 (.slice A2 T2.length c2) T2.length (strs T2)) (hL2 : Bor B w0 F 1 (.slice B2 L2.length b2) L2.length (L2.map iVal)) (hI2 : LsBor B w0 F L2) (hs : T1.length ≤ 1000000000) (hs2 : L1.length ≤ 1000000000) (hs3 : ∀ e ∈ L1, e.2.2.length ≤ 9223372036854775807) :
    Does Try.prog B w0 23 [.agg [.slice A1 T1.length c1, .slice B1 L1.length b1].toArray, .agg [.slice A2 T2.length c2, .slice B2 L2.length b2].toArray] F (fun r L => r = .bool (decide (T1 = T2 ∧ idsI L1 = idsI L2)) ∧ L = F) := by
  refine fn_walk Try.func23 17 rfl rfl rfl [(0, .agg [.slice A1 T1.length c1, .slice B1 L1.length b1].toArray), (1, .agg [.slice A2 T2.length c2, .slice B2 L2.length b2].toArray)] ⟨⟨rfl, rfl⟩, ⟨rfl, rfl⟩, trivial⟩ ?_
  refine vc_seq ?_
  refine vc_region ?_
  refine vl_eff (eff_box rfl rfl) rfl ?_
  rintro _ _ ⟨g2, rfl, rfl⟩
  refine vl_eff (eff_box rfl rfl) rfl ?_
  rintro _ _ ⟨g3, rfl, rfl⟩
  refine vl_det (det_assign rfl) rfl ?_
  refine vl_end [(2, _), (3, _)] ⟨rfl, rfl, trivial⟩ ?_
  refine then_next ?_
  refine vc_seq ?_
  refine vc_region ?_
  refine vl_cut 12 16 [] (T1 = T2 ∧ idsI L1 = idsI L2) trivial ?_ ?_
  · skip
    refine vl_det (det_fieldAddr_ Try.underlying29 rfl (by kernel_rfl) rfl rfl) rfl ?_
    refine vl_det (det_load_blk (by kernel_rfl) rfl (by repeat (first | exact .hd | apply Sel.tl)) rfl) rfl ?_
    refine vl_det (det_fieldAddr_ Try.underlying29 rfl (by kernel_rfl) rfl rfl) rfl ?_
    refine vl_det (det_load_blk (by kernel_rfl) rfl (by repeat (first | exact .hd | apply Sel.tl)) rfl) rfl ?_
    refine vl_call co45 rfl (eqs_d (by first | (exact Bor.own (by repeat (first | exact List.Mem.head _ | apply List.Mem.tail))) | (repeat (first | assumption | apply Bor.cons))) (by first | (exact Bor.own (by repeat (first | exact List.Mem.head _ | apply List.Mem.tail))) | (repeat (first | assumption | apply Bor.cons))) (by omega)) rfl ?_
    rintro _ _ ⟨rfl, hLL⟩
    obtain rfl := hLL.symm
    refine vl_det (det_move rfl) rfl ?_
    refine vl_guardp rfl rfl rfl (fun h10 => ?_) (fun h10 => ?_)
    · skip
      refine vl_det (det_fieldAddr_ Try.underlying29 rfl (by kernel_rfl) rfl rfl) rfl ?_
      refine vl_guard_t rfl rfl ?_
      refine vl_det (det_load_blk (by kernel_rfl) rfl (by repeat (first | exact .hd | apply Sel.tl)) rfl) rfl ?_
      refine vl_guard_t rfl rfl ?_
      refine vl_det (det_fieldAddr_ Try.underlying29 rfl (by kernel_rfl) rfl rfl) rfl ?_
      refine vl_guard_t rfl rfl ?_
      refine vl_det (det_load_blk (by kernel_rfl) rfl (by repeat (first | exact .hd | apply Sel.tl)) rfl) rfl ?_
      refine vl_guard_t rfl rfl ?_
      refine vl_call co46 rfl (eqf_d (by first | (exact Bor.own (by repeat (first | exact List.Mem.head _ | apply List.Mem.tail))) | (repeat (first | assumption | apply Bor.cons))) (hI1.mono (List.sublist_append_right [_, _] F)) (by first | (exact Bor.own (by repeat (first | exact List.Mem.head _ | apply List.Mem.tail))) | (repeat (first | assumption | apply Bor.cons))) (hI2.mono (List.sublist_append_right [_, _] F)) hs2 hs3) rfl ?_
      rintro _ _ ⟨rfl, hLL⟩
      obtain rfl := hLL.symm
      refine vl_det (det_pick_t rfl rfl) rfl ?_
      exact vl_cut_end trivial (by first | rfl | exact bool_to_t (by first | omega | simp_all) | exact bool_to_f (by first | omega | simp_all) | exact bool_to (by first | omega | simp_all) | exact bool_to_b (by first | omega | simp_all))
    · skip
      refine vl_guard_f rfl rfl rfl rfl ?_
      refine vl_guard_f rfl rfl rfl rfl ?_
      refine vl_guard_f rfl rfl rfl rfl ?_
      refine vl_guard_f rfl rfl rfl rfl ?_
      refine vl_det (det_pick_f rfl rfl) rfl ?_
      exact vl_cut_end trivial (by first | rfl | exact bool_to_t (by first | omega | simp_all) | exact bool_to_f (by first | omega | simp_all) | exact bool_to (by first | omega | simp_all) | exact bool_to_b (by first | omega | simp_all))
  · skip
    refine vl_det (det_assign rfl) rfl ?_
    refine vl_end [(4, _)] ⟨rfl, trivial⟩ ?_
    refine then_next ?_
    refine vc_ret ?_
    refine ret_wk (L' := F) (.skip (.skip (.refl _))) ?_
    refine ret1 rfl rfl ?_
    exact ⟨rfl, rfl⟩
theorem great18_d (h1 : Bor B w0 F 1 (.slice A1 T.length c1) T.length (strs T)) (hL : Bor B w0 F 1 (.slice B1 LL.length b1) LL.length (LL.map iVal)) (hs : T.length ≤ 9223372036854775807) (hs2 : LL.length ≤ 9223372036854775807) :
    Does Try.prog B w0 16 [IdxA A1 T.length c1 B1 LL.length b1] F (fun r L => ∃ b, r = .bool b ∧ L = F ∧ (b = false → T.length ≤ 100 ∧ LL.length ≤ 100 ∧ ∀ e ∈ LL, e.2.2.length ≤ 100)) := by
  refine fn_walk Try.func16 43 rfl rfl rfl [(0, IdxA A1 T.length c1 B1 LL.length b1)] ⟨⟨rfl, rfl⟩, trivial⟩ ?_
  refine vc_seq ?_
  refine vc_region ?_
  refine vl_eff (eff_box rfl rfl) rfl ?_
  rintro _ _ ⟨g1, rfl, rfl⟩
  refine vl_det (det_assign rfl) rfl ?_
  refine vl_end [(1, _)] ⟨rfl, trivial⟩ ?_
  refine then_next ?_
  refine vc_seq ?_
  refine vc_seq ?_
  refine vc_region ?_
  refine vl_cut 10 14 [(1, _)] (100 < T.length ∨ 100 < LL.length) ⟨rfl, trivial⟩ ?_ ?_
  · skip
    refine vl_det (det_fieldAddr_ Try.underlying29 rfl (by kernel_rfl) rfl rfl) rfl ?_
    refine vl_det (det_load_blk (by kernel_rfl) rfl (by repeat (first | exact .hd | apply Sel.tl)) rfl) rfl ?_
    refine vl_det (det_len_sl Try.underlying26 rfl) rfl ?_
    refine vl_det (det_gtr rfl rfl) rfl ?_
    refine vl_det (det_move rfl) rfl ?_
    refine vl_guardn rfl rfl rfl (fun h9 => ?_) (fun h9 => ?_)
    · skip
      refine vl_det (det_fieldAddr_ Try.underlying29 rfl (by kernel_rfl) rfl rfl) rfl ?_
      refine vl_guard_t rfl rfl ?_
      refine vl_det (det_load_blk (by kernel_rfl) rfl (by repeat (first | exact .hd | apply Sel.tl)) rfl) rfl ?_
      refine vl_guard_t rfl rfl ?_
      refine vl_det (det_len_sl Try.underlying27 rfl) rfl ?_
      refine vl_guard_t rfl rfl ?_
      refine vl_det (det_gtr rfl rfl) rfl ?_
      refine vl_det (det_pick_f rfl rfl) rfl ?_
      exact vl_cut_end ⟨rfl, trivial⟩ (by first | rfl | exact bool_to_t (by first | omega | simp_all) | exact bool_to_f (by first | omega | simp_all) | exact bool_to (by first | omega | simp_all) | exact bool_to_b (by first | omega | simp_all))
    · skip
      refine vl_guard_f rfl rfl rfl rfl ?_
      refine vl_guard_f rfl rfl rfl rfl ?_
      refine vl_guard_f rfl rfl rfl rfl ?_
      refine vl_det (det_pick_t rfl rfl) rfl ?_
      exact vl_cut_end ⟨rfl, trivial⟩ (by first | rfl | exact bool_to_t (by first | omega | simp_all) | exact bool_to_f (by first | omega | simp_all) | exact bool_to (by first | omega | simp_all) | exact bool_to_b (by first | omega | simp_all))
  · skip
    refine vl_end [(1, _), (14, _)] ⟨rfl, rfl, trivial⟩ ?_
    refine then_next ?_
    refine vc_decideU rfl (fun h14 => ?_) (fun h14 => ?_)
    · skip
      refine vc_seq ?_
      refine vc_region ?_
      refine vl_det (det_assign rfl) rfl ?_
      refine vl_end [(2, _)] ⟨rfl, trivial⟩ ?_
      refine then_next ?_
      refine vc_ret ?_
      refine then_ret ?_
      refine ret_wk (L' := F) (.skip (.refl _)) ?_
      refine ret1 rfl rfl ?_
      exact ⟨true, rfl, rfl, fun h => by cases h⟩
    · skip
      refine vc_skip ?_
      refine then_next ?_
      refine vc_seq ?_
      refine vc_seq ?_
      refine vc_region ?_
      refine vl_det (det_assign rfl) rfl ?_
      refine vl_end [(1, _), (3, _)] ⟨rfl, rfl, trivial⟩ ?_
      refine then_next ?_
      refine vc_block ?_
      refine vc_loopJ (fun zf zL zm => ∃ (k : Nat), (k ≤ T.length) ∧ T.length - k = zm ∧ Sub zf [(1, .pointer (some ⟨g1, 0, none⟩)), (3, .int .i64 k)] ∧ Wk zL (.blk g1 29 [.slice A1 T.length c1, .slice B1 LL.length b1] :: F)) _ ⟨0, Nat.zero_le _, rfl, ⟨(by first | rfl | exact int_to (by omega) | exact sl_to (by omega)), (by first | rfl | exact int_to (by omega) | exact sl_to (by omega)), trivial⟩, .refl _⟩ ?_
      rintro _ _ _ ⟨k, hk, rfl, hs, hp⟩
      refine vc_weaken _ hs (vc_wk hp ?_)
      clear hs hp
      refine vc_seq ?_
      refine vc_seq ?_
      refine vc_region ?_
      refine vl_det (det_move rfl) rfl ?_
      refine vl_det (det_fieldAddr_ Try.underlying29 rfl (by kernel_rfl) rfl rfl) rfl ?_
      refine vl_det (det_load_blk (by kernel_rfl) rfl (by repeat (first | exact .hd | apply Sel.tl)) rfl) rfl ?_
      refine vl_det (det_len_sl Try.underlying26 rfl) rfl ?_
      refine vl_det (det_lss rfl rfl) rfl ?_
      refine vl_end [(1, _), (3, _), (19, _)] ⟨rfl, rfl, rfl, trivial⟩ ?_
      refine then_next ?_
      refine vc_decideU rfl (fun h19 => ?_) (fun h19 => ?_)
      · skip
        refine vc_skip ?_
        refine then_next ?_
        refine vc_seq ?_
        refine vc_block ?_
        refine vc_seq ?_
        refine vc_region ?_
        refine vl_det (det_fieldAddr_ Try.underlying29 rfl (by kernel_rfl) rfl rfl) rfl ?_
        refine vl_det (det_load_blk (by kernel_rfl) rfl (by repeat (first | exact .hd | apply Sel.tl)) rfl) rfl ?_
        refine vl_det (det_move rfl) rfl ?_
        refine vl_det (det_indexAddr (size := 1) Try.underlying26 (by kernel_rfl) rfl rfl rfl (by omega) (by first | (exact Bor.own (by repeat (first | exact List.Mem.head _ | apply List.Mem.tail))) | (repeat (first | assumption | apply Bor.cons)))) rfl ?_
        refine vl_det (det_load_str (by kernel_rfl) rfl (by first | (exact Bor.own (by repeat (first | exact List.Mem.head _ | apply List.Mem.tail))) | (repeat (first | assumption | apply Bor.cons))) (by omega)) rfl ?_
        refine vl_det (det_len_s Try.underlying9 rfl) rfl ?_
        refine vl_det (det_gtr rfl rfl) rfl ?_
        refine vl_end [(1, _), (3, _), (28, _)] ⟨rfl, rfl, rfl, trivial⟩ ?_
        refine then_next ?_
        refine vc_decideU rfl (fun h28 => ?_) (fun h28 => ?_)
        · skip
          refine vc_seq ?_
          refine vc_region ?_
          refine vl_det (det_assign rfl) rfl ?_
          refine vl_end [(2, _)] ⟨rfl, trivial⟩ ?_
          refine then_next ?_
          refine vc_ret ?_
          refine in_ret ?_
          refine then_ret ?_
          refine loop_ret ?_
          refine in_ret ?_
          refine then_ret ?_
          refine ret_wk (L' := F) (.skip (.refl _)) ?_
          refine ret1 rfl rfl ?_
          exact ⟨true, rfl, rfl, fun h => by cases h⟩
        · skip
          refine vc_skip ?_
          refine in_normal ?_
          refine then_next ?_
          refine vc_region ?_
          refine vl_det (det_move rfl) rfl ?_
          refine vl_det (det_add rfl rfl (w_i64 (by omega) (by omega))) rfl ?_
          refine vl_det (det_assign rfl) rfl ?_
          refine vl_end [(1, _), (3, _)] ⟨rfl, rfl, trivial⟩ ?_
          refine in_loop_ ⟨_, by omega, k + 1, by omega, rfl, ⟨(by first | rfl | exact int_to (by omega) | exact sl_to (by omega)), (by first | rfl | exact int_to (by omega) | exact sl_to (by omega)), trivial⟩, .refl _⟩
      · skip
        refine vc_exit ?_
        refine then_exit ?_
        refine loop_exit ?_
        refine in_eq ?_
        refine then_next ?_
        refine vc_seq ?_
        refine vc_seq ?_
        refine vc_region ?_
        refine vl_det (det_assign rfl) rfl ?_
        refine vl_end [(1, _), (4, _)] ⟨rfl, rfl, trivial⟩ ?_
        refine then_next ?_
        refine vc_block ?_
        refine vc_loopJ (fun zf zL zm => ∃ (k : Nat), (k ≤ LL.length ∧ ∀ i, i < k → (LL.getD i iNil).2.2.length ≤ 100) ∧ LL.length - k = zm ∧ Sub zf [(1, .pointer (some ⟨g1, 0, none⟩)), (4, .int .i64 k)] ∧ Wk zL (.blk g1 29 [.slice A1 T.length c1, .slice B1 LL.length b1] :: F)) _ ⟨0, ⟨Nat.zero_le _, fun i h => absurd h (by omega)⟩, rfl, ⟨(by first | rfl | exact int_to (by omega) | exact sl_to (by omega)), (by first | rfl | exact int_to (by omega) | exact sl_to (by omega)), trivial⟩, .refl _⟩ ?_
        rintro _ _ _ ⟨k, ⟨hk, hall⟩, rfl, hs, hp⟩
        refine vc_weaken _ hs (vc_wk hp ?_)
        clear hs hp
        refine vc_seq ?_
        refine vc_seq ?_
        refine vc_region ?_
        refine vl_det (det_move rfl) rfl ?_
        refine vl_det (det_fieldAddr_ Try.underlying29 rfl (by kernel_rfl) rfl rfl) rfl ?_
        refine vl_det (det_load_blk (by kernel_rfl) rfl (by repeat (first | exact .hd | apply Sel.tl)) rfl) rfl ?_
        refine vl_det (det_len_sl Try.underlying27 rfl) rfl ?_
        refine vl_det (det_lss rfl rfl) rfl ?_
        refine vl_end [(1, _), (4, _), (33, _)] ⟨rfl, rfl, rfl, trivial⟩ ?_
        refine then_next ?_
        refine vc_decideU rfl (fun h33 => ?_) (fun h33 => ?_)
        · skip
          refine vc_skip ?_
          refine then_next ?_
          refine vc_seq ?_
          refine vc_block ?_
          refine vc_seq ?_
          refine vc_region ?_
          refine vl_det (det_fieldAddr_ Try.underlying29 rfl (by kernel_rfl) rfl rfl) rfl ?_
          refine vl_det (det_load_blk (by kernel_rfl) rfl (by repeat (first | exact .hd | apply Sel.tl)) rfl) rfl ?_
          refine vl_det (det_move rfl) rfl ?_
          refine vl_det (det_indexAddr (size := 1) Try.underlying27 (by kernel_rfl) rfl rfl rfl (by omega) (by first | (exact Bor.own (by repeat (first | exact List.Mem.head _ | apply List.Mem.tail))) | (repeat (first | assumption | apply Bor.cons)))) rfl ?_
          refine vl_det (det_load_row (by kernel_rfl) rfl (by first | (exact Bor.own (by repeat (first | exact List.Mem.head _ | apply List.Mem.tail))) | (repeat (first | assumption | apply Bor.cons))) (by omega) (iget (LL := LL) (k := k) (by omega))) rfl ?_
          refine vl_det (det_len_sl Try.underlying37 rfl) rfl ?_
          refine vl_det (det_gtr rfl rfl) rfl ?_
          refine vl_end [(1, _), (4, _), (42, _)] ⟨rfl, rfl, rfl, trivial⟩ ?_
          refine then_next ?_
          refine vc_decideU rfl (fun h42 => ?_) (fun h42 => ?_)
          · skip
            refine vc_seq ?_
            refine vc_region ?_
            refine vl_det (det_assign rfl) rfl ?_
            refine vl_end [(2, _)] ⟨rfl, trivial⟩ ?_
            refine then_next ?_
            refine vc_ret ?_
            refine in_ret ?_
            refine then_ret ?_
            refine loop_ret ?_
            refine in_ret ?_
            refine then_ret ?_
            refine ret_wk (L' := F) (.skip (.refl _)) ?_
            refine ret1 rfl rfl ?_
            exact ⟨true, rfl, rfl, fun h => by cases h⟩
          · skip
            refine vc_skip ?_
            refine in_normal ?_
            refine then_next ?_
            refine vc_region ?_
            refine vl_det (det_move rfl) rfl ?_
            refine vl_det (det_add rfl rfl (w_i64 (by omega) (by omega))) rfl ?_
            refine vl_det (det_assign rfl) rfl ?_
            refine vl_end [(1, _), (4, _)] ⟨rfl, rfl, trivial⟩ ?_
            refine in_loop_ ⟨_, by omega, k + 1, ⟨by omega, fun i hi => by
  rcases Nat.lt_or_ge i k with h | h
  · exact hall i h
  · rw [show i = k by omega]; omega⟩, rfl, ⟨(by first | rfl | exact int_to (by omega) | exact sl_to (by omega)), (by first | rfl | exact int_to (by omega) | exact sl_to (by omega)), trivial⟩, .refl _⟩
        · skip
          refine vc_exit ?_
          refine then_exit ?_
          refine loop_exit ?_
          refine in_eq ?_
          refine then_next ?_
          refine vc_seq ?_
          refine vc_region ?_
          refine vl_det (det_assign rfl) rfl ?_
          refine vl_end [(2, _)] ⟨rfl, trivial⟩ ?_
          refine then_next ?_
          refine vc_ret ?_
          refine ret_wk (L' := F) (.skip (.refl _)) ?_
          refine ret1 rfl rfl ?_
          exact ⟨false, rfl, rfl, fun _ => ⟨by omega, by omega, fun e he => by
            obtain ⟨i, hi, rfl⟩ := List.getElem_of_mem he
            have := hall i (by omega)
            simpa [List.getD, List.getElem?_eq_getElem hi] using this⟩⟩
end Go.Proofs.Ytpamjobiohbibaa
namespace Go.Proofs.Ytpamjobiohbibaa
open Go.RowKit
theorem dec_intW (W : World) : DecT Try.prog W 3 (fun x : Int => [.int .i64 x]) (fun x => -9223372036854775808 ≤ x ∧ x ≤ 9223372036854775807) := dec_int Try.underlying3
end Go.Proofs.Ytpamjobiohbibaa
namespace Go.Proofs.Ytpamjobiohbibaa
open Go.RowKit Go.WideShapes
theorem agg_of {P : Program} {W : World} {base : Nat} {t : TypeId} {fs : Array Field} {v : Value} {xs : List Value} (ht : P.underlying t = some (.struct fs)) (hv : Value.okWide P W .any base t v) (e : v.cells.toList = xs) : Value.agg xs.toArray = v := by
  obtain ⟨cs, rfl, _⟩ := okWide_struct ht hv
  simp only [Value.cells] at e
  rw [← e]
end Go.Proofs.Ytpamjobiohbibaa
namespace Go.Proofs.Ytpamjobiohbibaa
open Go.RowKit
set_option linter.unusedVariables false
set_option maxRecDepth 20000
section
variable {P : Program} {w : World} {t : TypeId}
theorem dec_struct2 {α β : Type} {f0 f1 : Field} {F0 : α → Value} {F1 : β → Value} {O0 : α → Prop} {O1 : β → Prop}
    (ht : P.underlying t = some (.struct #[f0, f1])) (hc : P.cellsOf t = 2) (h0 : f0.offset = 0 ∧ P.cellsOf f0.type = 1) (h1 : f1.offset = 1 ∧ P.cellsOf f1.type = 1)
    (d0 : DecT P w f0.type (fun x => [F0 x]) O0) (d1 : DecT P w f1.type (fun x => [F1 x]) O1) :
    DecT P w t (fun x : α × β => [F0 x.1, F1 x.2]) (fun x => O0 x.1 ∧ O1 x.2) := by
  intro H enc n cs y h
  obtain ⟨xs, n', _, _, hl, hx, hf⟩ := DataW.trod_struct ht h
  rw [hc] at hl
  obtain ⟨c0, c1, rfl⟩ : ∃ c0 c1, cs = [c0, c1] := by
    match cs, hl with
    | [c0, c1], _ => exact ⟨c0, c1, rfl⟩
  obtain ⟨y0, y1, rfl⟩ : ∃ y0 y1, xs = [y0, y1] := by
    match xs, hx with
    | [y0, y1], _ => exact ⟨y0, y1, rfl⟩
  have g0 := hf 0 f0 rfl
  have g1 := hf 1 f1 rfl
  rw [h0.1, h0.2] at g0
  rw [h1.1, h1.2] at g1
  obtain ⟨a, ea, oa⟩ := d0 H enc _ _ _ g0
  obtain ⟨b, eb, ob⟩ := d1 H enc _ _ _ g1
  simp at ea eb
  exact ⟨(a, b), by simp [ea, eb], oa, ob⟩
end
abbrev IdxX := (Value × List Txt) × (Value × List (Value × List Int))
def IdxX.cells (x : IdxX) : List Value := [x.1.1, x.2.1]
def IdxX.ok (w : World) (x : IdxX) : Prop :=
  (Rd w w.heap.size 1 x.1.1 x.1.2.length (x.1.2.flatMap fun s => [.string ⟨s.toArray⟩]) ∧ (∀ y ∈ x.1.2, y.length ≤ maxLen) ∧ x.1.2.length ≤ maxLen) ∧
  (Rd w w.heap.size 1 x.2.1 x.2.2.length (x.2.2.flatMap fun y => [y.1]) ∧ (∀ y ∈ x.2.2, Rd w w.heap.size 1 y.1 y.2.length (y.2.flatMap fun n => [.int .i64 n]) ∧ (∀ z ∈ y.2, -9223372036854775808 ≤ z ∧ z ≤ 9223372036854775807) ∧ y.2.length ≤ maxLen) ∧ x.2.2.length ≤ maxLen)
theorem dec_idx (w : World) : DecT Try.prog w 29 IdxX.cells (IdxX.ok w) :=
  dec_struct2 Try.underlying29 (by kernel_rfl) ⟨rfl, by kernel_rfl⟩ ⟨rfl, by kernel_rfl⟩
    (dec_slice Try.underlying26 (by kernel_rfl : Try.prog.cellsOf 9 = 1) (by omega) (fun _ => rfl) (dec_strL Try.underlying9))
    (dec_slice Try.underlying27 (by kernel_rfl : Try.prog.cellsOf 37 = 1) (by omega) (fun _ => rfl) (dec_slice Try.underlying37 (by kernel_rfl : Try.prog.cellsOf 3 = 1) (by omega) (fun _ => rfl) (dec_intW w)))
theorem flat_one {α β : Type} (f : α → β) : ∀ l : List α, (l.flatMap fun x => [f x]) = l.map f
  | [] => rfl
  | x :: r => by rw [List.flatMap_cons, flat_one f r]; rfl
theorem ls_open {w : World} : ∀ L : List (Value × List Int), (∀ y ∈ L, Rd w w.heap.size 1 y.1 y.2.length (y.2.flatMap fun n => [.int .i64 n]) ∧ (∀ z ∈ y.2, -9223372036854775808 ≤ z ∧ z ≤ 9223372036854775807) ∧ y.2.length ≤ maxLen) →
    ∃ LL : List LsI, L.map (·.1) = LL.map iVal ∧ LL.length = L.length ∧ LsBor w.heap.size w [] LL ∧ ∀ e ∈ LL, e.2.2.length ≤ maxLen
  | [], _ => ⟨[], rfl, rfl, fun e he => by simp at he, fun e he => by simp at he⟩
  | y :: r, h => by
    obtain ⟨LL, e1, e2, e3, e4⟩ := ls_open r (fun z hz => h z (List.mem_cons_of_mem _ hz))
    obtain ⟨hr, _, hm⟩ := h y (List.Mem.head _)
    obtain ⟨A, c, hv, hc⟩ := hr.form
    rw [flat_one, hv] at hr
    refine ⟨(A, c, y.2) :: LL, by rw [List.map_cons, List.map_cons, e1, hv], by simp [e2], fun e he => ?_, fun e he => ?_⟩
    · rcases List.mem_cons.1 he with rfl | he
      · exact Bor.in_ hr
      · exact e3 e he
    · rcases List.mem_cons.1 he with rfl | he
      · exact hm
      · exact e4 e he
theorem idx_open {w : World} {x : IdxX} (h : IdxX.ok w x) : ∃ A1 c1 B1 b1 T LL, IdxX.cells x = [.slice A1 T.length c1, .slice B1 LL.length b1] ∧ Bor w.heap.size w [] 1 (.slice A1 T.length c1) T.length (strs T) ∧
    Bor w.heap.size w [] 1 (.slice B1 LL.length b1) LL.length (LL.map iVal) ∧ LsBor w.heap.size w [] LL ∧ T.length ≤ maxLen ∧ LL.length ≤ maxLen ∧ ∀ e ∈ LL, e.2.2.length ≤ maxLen := by
  obtain ⟨⟨hr1, _, hm1⟩, hr2, ho2, hm2⟩ := h
  obtain ⟨A1, c1, hv1, hc1⟩ := hr1.form
  obtain ⟨B1, b1, hv2, hc2⟩ := hr2.form
  obtain ⟨LL, e1, e2, e3, e4⟩ := ls_open _ ho2
  rw [flat_one] at hr1 hr2
  rw [hv1] at hr1
  rw [hv2, e1, ← e2] at hr2
  refine ⟨A1, c1, B1, b1, x.1.2, LL, ?_, Bor.in_ hr1, Bor.in_ hr2, e3, hm1, by omega, e4⟩
  unfold IdxX.cells
  rw [hv1, hv2, e2]
variable {B : Nat} {w0 : World} {F : List Ch} {A A1 A2 B1 B2 : Option Addr} {n c c1 c2 b1 b2 g : Nat} {bound size : Int} {T : List Txt} {LL : List LsI}
def gr18 (T : List Txt) (LL : List LsI) : Prop := 100 < T.length ∨ 100 < LL.length ∨ (∃ i, i < T.length ∧ 60 < (T.getD i []).length) ∨ ∃ i, i < LL.length ∧ 100 < (LL.getD i iNil).2.2.length
instance (T : List Txt) (LL : List LsI) : Decidable (gr18 T LL) := inferInstanceAs (Decidable (_ ∨ _ ∨ _ ∨ _))
theorem gr18_not {T : List Txt} {LL : List LsI} (h : ¬ gr18 T LL) : T.length ≤ 100 ∧ LL.length ≤ 100 ∧ ∀ e ∈ LL, e.2.2.length ≤ 100 :=
  ⟨Nat.le_of_not_lt fun z => h (.inl z), Nat.le_of_not_lt fun z => h (.inr (.inl z)), fun e he => Nat.le_of_not_lt fun z => by
    obtain ⟨i, hi, rfl⟩ := List.getElem_of_mem he
    exact h (.inr (.inr (.inr ⟨i, hi, by simpa [List.getD, List.getElem?_eq_getElem hi] using z⟩)))⟩
theorem great18_x (h1 : Bor B w0 F 1 (.slice A1 T.length c1) T.length (strs T)) (hL : Bor B w0 F 1 (.slice B1 LL.length b1) LL.length (LL.map iVal)) (hs : T.length ≤ 9223372036854775807) (hs2 : LL.length ≤ 9223372036854775807) :
    Does Try.prog B w0 16 [IdxA A1 T.length c1 B1 LL.length b1] F (fun r L => r = .bool (decide (gr18 T LL)) ∧ L = F) := by
  refine fn_walk Try.func16 43 rfl rfl rfl [(0, IdxA A1 T.length c1 B1 LL.length b1)] ⟨⟨rfl, rfl⟩, trivial⟩ ?_
  refine vc_seq ?_
  refine vc_region ?_
  refine vl_eff (eff_box rfl rfl) rfl ?_
  rintro _ _ ⟨g1, rfl, rfl⟩
  refine vl_det (det_assign rfl) rfl ?_
  refine vl_end [(1, _)] ⟨rfl, trivial⟩ ?_
  refine then_next ?_
  refine vc_seq ?_
  refine vc_seq ?_
  refine vc_region ?_
  refine vl_cut 10 14 [(1, _)] (100 < T.length ∨ 100 < LL.length) ⟨rfl, trivial⟩ ?_ ?_
  · skip
    refine vl_det (det_fieldAddr_ Try.underlying29 rfl (by kernel_rfl) rfl rfl) rfl ?_
    refine vl_det (det_load_blk (by kernel_rfl) rfl (by repeat (first | exact .hd | apply Sel.tl)) rfl) rfl ?_
    refine vl_det (det_len_sl Try.underlying26 rfl) rfl ?_
    refine vl_det (det_gtr rfl rfl) rfl ?_
    refine vl_det (det_move rfl) rfl ?_
    refine vl_guardn rfl rfl rfl (fun h9 => ?_) (fun h9 => ?_)
    · skip
      refine vl_det (det_fieldAddr_ Try.underlying29 rfl (by kernel_rfl) rfl rfl) rfl ?_
      refine vl_guard_t rfl rfl ?_
      refine vl_det (det_load_blk (by kernel_rfl) rfl (by repeat (first | exact .hd | apply Sel.tl)) rfl) rfl ?_
      refine vl_guard_t rfl rfl ?_
      refine vl_det (det_len_sl Try.underlying27 rfl) rfl ?_
      refine vl_guard_t rfl rfl ?_
      refine vl_det (det_gtr rfl rfl) rfl ?_
      refine vl_det (det_pick_f rfl rfl) rfl ?_
      exact vl_cut_end ⟨rfl, trivial⟩ (by first | rfl | exact bool_to_t (by first | omega | simp_all) | exact bool_to_f (by first | omega | simp_all) | exact bool_to (by first | omega | simp_all) | exact bool_to_b (by first | omega | simp_all))
    · skip
      refine vl_guard_f rfl rfl rfl rfl ?_
      refine vl_guard_f rfl rfl rfl rfl ?_
      refine vl_guard_f rfl rfl rfl rfl ?_
      refine vl_det (det_pick_t rfl rfl) rfl ?_
      exact vl_cut_end ⟨rfl, trivial⟩ (by first | rfl | exact bool_to_t (by first | omega | simp_all) | exact bool_to_f (by first | omega | simp_all) | exact bool_to (by first | omega | simp_all) | exact bool_to_b (by first | omega | simp_all))
  · skip
    refine vl_end [(1, _), (14, _)] ⟨rfl, rfl, trivial⟩ ?_
    refine then_next ?_
    refine vc_decideU rfl (fun h14 => ?_) (fun h14 => ?_)
    · skip
      refine vc_seq ?_
      refine vc_region ?_
      refine vl_det (det_assign rfl) rfl ?_
      refine vl_end [(2, _)] ⟨rfl, trivial⟩ ?_
      refine then_next ?_
      refine vc_ret ?_
      refine then_ret ?_
      refine ret_wk (L' := F) (.skip (.refl _)) ?_
      refine ret1 rfl rfl ?_
      exact ⟨by rw [decide_eq_true (h14.elim .inl fun z => .inr (.inl z))], rfl⟩
    · skip
      refine vc_skip ?_
      refine then_next ?_
      refine vc_seq ?_
      refine vc_seq ?_
      refine vc_region ?_
      refine vl_det (det_assign rfl) rfl ?_
      refine vl_end [(1, _), (3, _)] ⟨rfl, rfl, trivial⟩ ?_
      refine then_next ?_
      refine vc_block ?_
      refine vc_loopJ (fun zf zL zm => ∃ (k : Nat), (k ≤ T.length ∧ ∀ i, i < k → (T.getD i []).length ≤ 60) ∧ T.length - k = zm ∧ Sub zf [(1, .pointer (some ⟨g1, 0, none⟩)), (3, .int .i64 k)] ∧ Wk zL (.blk g1 29 [.slice A1 T.length c1, .slice B1 LL.length b1] :: F)) _ ⟨0, ⟨Nat.zero_le _, fun i h => absurd h (by omega)⟩, rfl, ⟨(by first | rfl | exact int_to (by omega) | exact sl_to (by omega)), (by first | rfl | exact int_to (by omega) | exact sl_to (by omega)), trivial⟩, .refl _⟩ ?_
      rintro _ _ _ ⟨k, ⟨hk, hall1⟩, rfl, hs, hp⟩
      refine vc_weaken _ hs (vc_wk hp ?_)
      clear hs hp
      refine vc_seq ?_
      refine vc_seq ?_
      refine vc_region ?_
      refine vl_det (det_move rfl) rfl ?_
      refine vl_det (det_fieldAddr_ Try.underlying29 rfl (by kernel_rfl) rfl rfl) rfl ?_
      refine vl_det (det_load_blk (by kernel_rfl) rfl (by repeat (first | exact .hd | apply Sel.tl)) rfl) rfl ?_
      refine vl_det (det_len_sl Try.underlying26 rfl) rfl ?_
      refine vl_det (det_lss rfl rfl) rfl ?_
      refine vl_end [(1, _), (3, _), (19, _)] ⟨rfl, rfl, rfl, trivial⟩ ?_
      refine then_next ?_
      refine vc_decideU rfl (fun h19 => ?_) (fun h19 => ?_)
      · skip
        refine vc_skip ?_
        refine then_next ?_
        refine vc_seq ?_
        refine vc_block ?_
        refine vc_seq ?_
        refine vc_region ?_
        refine vl_det (det_fieldAddr_ Try.underlying29 rfl (by kernel_rfl) rfl rfl) rfl ?_
        refine vl_det (det_load_blk (by kernel_rfl) rfl (by repeat (first | exact .hd | apply Sel.tl)) rfl) rfl ?_
        refine vl_det (det_move rfl) rfl ?_
        refine vl_det (det_indexAddr (size := 1) Try.underlying26 (by kernel_rfl) rfl rfl rfl (by omega) (by first | (exact Bor.own (by repeat (first | exact List.Mem.head _ | apply List.Mem.tail))) | (repeat (first | assumption | apply Bor.cons)))) rfl ?_
        refine vl_det (det_load_str (by kernel_rfl) rfl (by first | (exact Bor.own (by repeat (first | exact List.Mem.head _ | apply List.Mem.tail))) | (repeat (first | assumption | apply Bor.cons))) (by omega)) rfl ?_
        refine vl_det (det_len_s Try.underlying9 rfl) rfl ?_
        refine vl_det (det_gtr rfl rfl) rfl ?_
        refine vl_end [(1, _), (3, _), (28, _)] ⟨rfl, rfl, rfl, trivial⟩ ?_
        refine then_next ?_
        refine vc_decideU rfl (fun h28 => ?_) (fun h28 => ?_)
        · skip
          refine vc_seq ?_
          refine vc_region ?_
          refine vl_det (det_assign rfl) rfl ?_
          refine vl_end [(2, _)] ⟨rfl, trivial⟩ ?_
          refine then_next ?_
          refine vc_ret ?_
          refine in_ret ?_
          refine then_ret ?_
          refine loop_ret ?_
          refine in_ret ?_
          refine then_ret ?_
          refine ret_wk (L' := F) (.skip (.refl _)) ?_
          refine ret1 rfl rfl ?_
          exact ⟨by rw [decide_eq_true (.inr (.inr (.inl ⟨k, by omega, by omega⟩)))], rfl⟩
        · skip
          refine vc_skip ?_
          refine in_normal ?_
          refine then_next ?_
          refine vc_region ?_
          refine vl_det (det_move rfl) rfl ?_
          refine vl_det (det_add rfl rfl (w_i64 (by omega) (by omega))) rfl ?_
          refine vl_det (det_assign rfl) rfl ?_
          refine vl_end [(1, _), (3, _)] ⟨rfl, rfl, trivial⟩ ?_
          refine in_loop_ ⟨_, by omega, k + 1, ⟨by omega, fun i hi => by
  rcases Nat.lt_or_ge i k with h | h
  · exact hall1 i h
  · rw [show i = k by omega]; omega⟩, rfl, ⟨(by first | rfl | exact int_to (by omega) | exact sl_to (by omega)), (by first | rfl | exact int_to (by omega) | exact sl_to (by omega)), trivial⟩, .refl _⟩
      · skip
        refine vc_exit ?_
        refine then_exit ?_
        refine loop_exit ?_
        refine in_eq ?_
        refine then_next ?_
        refine vc_seq ?_
        refine vc_seq ?_
        refine vc_region ?_
        refine vl_det (det_assign rfl) rfl ?_
        refine vl_end [(1, _), (4, _)] ⟨rfl, rfl, trivial⟩ ?_
        refine then_next ?_
        refine vc_block ?_
        refine vc_loopJ (fun zf zL zm => ∃ (k : Nat), (k ≤ LL.length ∧ ∀ i, i < k → (LL.getD i iNil).2.2.length ≤ 100) ∧ LL.length - k = zm ∧ Sub zf [(1, .pointer (some ⟨g1, 0, none⟩)), (4, .int .i64 k)] ∧ Wk zL (.blk g1 29 [.slice A1 T.length c1, .slice B1 LL.length b1] :: F)) _ ⟨0, ⟨Nat.zero_le _, fun i h => absurd h (by omega)⟩, rfl, ⟨(by first | rfl | exact int_to (by omega) | exact sl_to (by omega)), (by first | rfl | exact int_to (by omega) | exact sl_to (by omega)), trivial⟩, .refl _⟩ ?_
        rintro _ _ _ ⟨k, ⟨hk, hall⟩, rfl, hs, hp⟩
        refine vc_weaken _ hs (vc_wk hp ?_)
        clear hs hp
        refine vc_seq ?_
        refine vc_seq ?_
        refine vc_region ?_
        refine vl_det (det_move rfl) rfl ?_
        refine vl_det (det_fieldAddr_ Try.underlying29 rfl (by kernel_rfl) rfl rfl) rfl ?_
        refine vl_det (det_load_blk (by kernel_rfl) rfl (by repeat (first | exact .hd | apply Sel.tl)) rfl) rfl ?_
        refine vl_det (det_len_sl Try.underlying27 rfl) rfl ?_
        refine vl_det (det_lss rfl rfl) rfl ?_
        refine vl_end [(1, _), (4, _), (33, _)] ⟨rfl, rfl, rfl, trivial⟩ ?_
        refine then_next ?_
        refine vc_decideU rfl (fun h33 => ?_) (fun h33 => ?_)
        · skip
          refine vc_skip ?_
          refine then_next ?_
          refine vc_seq ?_
          refine vc_block ?_
          refine vc_seq ?_
          refine vc_region ?_
          refine vl_det (det_fieldAddr_ Try.underlying29 rfl (by kernel_rfl) rfl rfl) rfl ?_
          refine vl_det (det_load_blk (by kernel_rfl) rfl (by repeat (first | exact .hd | apply Sel.tl)) rfl) rfl ?_
          refine vl_det (det_move rfl) rfl ?_
          refine vl_det (det_indexAddr (size := 1) Try.underlying27 (by kernel_rfl) rfl rfl rfl (by omega) (by first | (exact Bor.own (by repeat (first | exact List.Mem.head _ | apply List.Mem.tail))) | (repeat (first | assumption | apply Bor.cons)))) rfl ?_
          refine vl_det (det_load_row (by kernel_rfl) rfl (by first | (exact Bor.own (by repeat (first | exact List.Mem.head _ | apply List.Mem.tail))) | (repeat (first | assumption | apply Bor.cons))) (by omega) (iget (LL := LL) (k := k) (by omega))) rfl ?_
          refine vl_det (det_len_sl Try.underlying37 rfl) rfl ?_
          refine vl_det (det_gtr rfl rfl) rfl ?_
          refine vl_end [(1, _), (4, _), (42, _)] ⟨rfl, rfl, rfl, trivial⟩ ?_
          refine then_next ?_
          refine vc_decideU rfl (fun h42 => ?_) (fun h42 => ?_)
          · skip
            refine vc_seq ?_
            refine vc_region ?_
            refine vl_det (det_assign rfl) rfl ?_
            refine vl_end [(2, _)] ⟨rfl, trivial⟩ ?_
            refine then_next ?_
            refine vc_ret ?_
            refine in_ret ?_
            refine then_ret ?_
            refine loop_ret ?_
            refine in_ret ?_
            refine then_ret ?_
            refine ret_wk (L' := F) (.skip (.refl _)) ?_
            refine ret1 rfl rfl ?_
            exact ⟨by rw [decide_eq_true (.inr (.inr (.inr ⟨k, by omega, by omega⟩)))], rfl⟩
          · skip
            refine vc_skip ?_
            refine in_normal ?_
            refine then_next ?_
            refine vc_region ?_
            refine vl_det (det_move rfl) rfl ?_
            refine vl_det (det_add rfl rfl (w_i64 (by omega) (by omega))) rfl ?_
            refine vl_det (det_assign rfl) rfl ?_
            refine vl_end [(1, _), (4, _)] ⟨rfl, rfl, trivial⟩ ?_
            refine in_loop_ ⟨_, by omega, k + 1, ⟨by omega, fun i hi => by
  rcases Nat.lt_or_ge i k with h | h
  · exact hall i h
  · rw [show i = k by omega]; omega⟩, rfl, ⟨(by first | rfl | exact int_to (by omega) | exact sl_to (by omega)), (by first | rfl | exact int_to (by omega) | exact sl_to (by omega)), trivial⟩, .refl _⟩
        · skip
          refine vc_exit ?_
          refine then_exit ?_
          refine loop_exit ?_
          refine in_eq ?_
          refine then_next ?_
          refine vc_seq ?_
          refine vc_region ?_
          refine vl_det (det_assign rfl) rfl ?_
          refine vl_end [(2, _)] ⟨rfl, trivial⟩ ?_
          refine then_next ?_
          refine vc_ret ?_
          refine ret_wk (L' := F) (.skip (.refl _)) ?_
          refine ret1 rfl rfl ?_
          exact ⟨by
            rw [decide_eq_false]
            rintro (h | h | ⟨i, hi, h⟩ | ⟨i, hi, h⟩)
            · omega
            · omega
            · have := hall1 i (by omega); omega
            · have := hall i (by omega); omega, rfl⟩
end Go.Proofs.Ytpamjobiohbibaa
namespace Go.Proofs.Ytpamjobiohbibaa
open Go.RowKit
set_option linter.unusedVariables false
set_option maxRecDepth 20000
variable {B : Nat} {w0 : World} {F : List Ch} {A A1 A2 B1 B2 : Option Addr} {n c c1 c2 b1 b2 g : Nat} {bound size : Int} {T : List Txt} {LL : List LsI}
theorem ptrm_d {x : RecC} (hx : x.w ≤ 1000000) : Does Try.prog B w0 14 [.agg (RecC.cells x).toArray] F (fun r L => ∃ A c, r = .slice A (trm x).length c ∧ L = .own 9 1 A (trm x).length c (strs (trm x)) :: F) := by
  obtain ⟨tm, lv, src, txt⟩ := x
  unfold RecC.w at hx
  exact terms_d txt src (by simp only at hx; omega) (by simp only at hx; omega)
theorem may_true {f : FuncId} {args : List Value} {P : Prop} {d : Decidable P} (h : Does Try.prog B w0 f args F (fun r L => r = .bool (@decide P d) ∧ L = F)) (hp : P) : Does Try.prog B w0 f args F (fun r L => r = .bool true ∧ L = F) :=
  h.mono fun r L k => ⟨k.1.trans (by rw [decide_eq_true hp]), k.2⟩
theorem rmay18_n {m : Nat} (e : LL.length = m) (h1 : Bor B w0 F 1 (.slice A1 T.length c1) T.length (strs T)) (hL : Bor B w0 F 1 (.slice B1 m b1) m (LL.map iVal)) (hI : LsBor B w0 F LL) (hs3 : ∀ e ∈ LL, e.2.2.length ≤ 9000000000000000000) (hs : T.length ≤ 1000000000) (hp : idxOk bound T (idsI LL)) :
    Does Try.prog B w0 20 [.int .i64 bound, IdxA A1 T.length c1 B1 m b1] F (fun r L => r = .bool true ∧ L = F) := by
  subst e; exact may_true (rmay18_d h1 hL hI hs3 hs) hp
theorem pmay_n {m : Nat} (e : LL.length = m) (h1 : Bor B w0 F 1 (.slice A1 T.length c1) T.length (strs T)) (hL : Bor B w0 F 1 (.slice B1 m b1) m (LL.map iVal)) (hI : LsBor B w0 F LL) (hs3 : ∀ e ∈ LL, e.2.2.length ≤ 9000000000000000000) (hs : T.length ≤ 1000000000) (hp : idxOk bound T (idsI LL)) :
    Does Try.prog B w0 21 [.int .i64 bound, IdxA A1 T.length c1 B1 m b1] F (fun r L => r = .bool true ∧ L = F) := by
  subst e; exact may_true (pmay_d h1 hL hI hs3 hs) hp
theorem has14_d {l : List Int} (t : Int) (h1 : Bor B w0 F 1 (.slice A l.length c) l.length (ints .i64 l)) (hn1 : l.length ≤ 1000000000000000) :
    Does Try.prog B w0 22 [.slice A l.length c, .int .i64 t] F (fun r L => r = .bool (decide (t ∈ l)) ∧ L = F) := by
  refine fn_walk Try.func22 18 rfl rfl rfl [(0, .slice A l.length c), (1, .int .i64 t)] ⟨⟨rfl, rfl⟩, ⟨rfl, rfl⟩, trivial⟩ ?_
  refine vc_seq ?_
  refine vc_region ?_
  refine vl_det (det_assign rfl) rfl ?_
  refine vl_end [(0, _), (1, _)] ⟨rfl, rfl, trivial⟩ ?_
  refine then_next ?_
  refine vc_seq ?_
  refine vc_seq ?_
  refine vc_region ?_
  refine vl_det (det_assign rfl) rfl ?_
  refine vl_end [(0, _), (1, _), (5, _)] ⟨rfl, rfl, rfl, trivial⟩ ?_
  refine then_next ?_
  refine vc_block ?_
  refine vc_loopJ (fun zf zL zm => ∃ (k : Nat), (k ≤ l.length ∧ t ∉ l.take k) ∧ l.length - k = zm ∧ Sub zf [(0, .slice A l.length c), (1, .int .i64 t), (5, .int .i64 k)] ∧ Wk zL (F)) _ ⟨0, ⟨Nat.zero_le _, by simp⟩, rfl, ⟨(by first | rfl | exact int_to (by omega) | exact sl_to (by omega)), (by first | rfl | exact int_to (by omega) | exact sl_to (by omega)), (by first | rfl | exact int_to (by omega) | exact sl_to (by omega)), trivial⟩, .refl _⟩ ?_
  rintro _ _ _ ⟨k, ⟨hk, hS⟩, rfl, hs, hp⟩
  refine vc_weaken _ hs (vc_wk hp ?_)
  clear hs hp
  refine vc_seq ?_
  refine vc_seq ?_
  refine vc_region ?_
  refine vl_det (det_move rfl) rfl ?_
  refine vl_det (det_move rfl) rfl ?_
  refine vl_det (det_len_sl Try.underlying37 rfl) rfl ?_
  refine vl_det (det_lss rfl rfl) rfl ?_
  refine vl_end [(0, _), (1, _), (5, _), (9, _)] ⟨rfl, rfl, rfl, rfl, trivial⟩ ?_
  refine then_next ?_
  refine vc_decideU rfl (fun h9 => ?_) (fun h9 => ?_)
  · skip
    refine vc_skip ?_
    refine then_next ?_
    refine vc_seq ?_
    refine vc_block ?_
    refine vc_seq ?_
    refine vc_region ?_
    refine vl_det (det_move rfl) rfl ?_
    refine vl_det (det_move rfl) rfl ?_
    refine vl_det (det_indexAddr (size := 1) Try.underlying37 (by kernel_rfl) rfl rfl rfl (by omega) (by first | (exact Bor.own (by repeat (first | exact List.Mem.head _ | apply List.Mem.tail))) | (repeat (first | assumption | apply Bor.cons)))) rfl ?_
    refine vl_det (det_load_row (by kernel_rfl) rfl (by first | (exact Bor.own (by repeat (first | exact List.Mem.head _ | apply List.Mem.tail))) | (repeat (first | assumption | apply Bor.cons))) (by omega) (intk (l := l) (k := k) (by omega))) rfl ?_
    refine vl_det (det_move rfl) rfl ?_
    refine vl_det (det_eql rfl rfl) rfl ?_
    refine vl_end [(0, _), (1, _), (5, _), (17, _)] ⟨rfl, rfl, rfl, rfl, trivial⟩ ?_
    refine then_next ?_
    refine vc_decideU rfl (fun h17 => ?_) (fun h17 => ?_)
    · skip
      refine vc_seq ?_
      refine vc_region ?_
      refine vl_det (det_assign rfl) rfl ?_
      refine vl_end [(4, _)] ⟨rfl, trivial⟩ ?_
      refine then_next ?_
      refine vc_ret ?_
      refine in_ret ?_
      refine then_ret ?_
      refine loop_ret ?_
      refine in_ret ?_
      refine then_ret ?_
      refine ret1 rfl rfl ?_
      rw [decide_eq_true (h17 ▸ getD_mem (by omega) 0)]; exact ⟨rfl, rfl⟩
    · skip
      refine vc_skip ?_
      refine in_normal ?_
      refine then_next ?_
      refine vc_region ?_
      refine vl_det (det_move rfl) rfl ?_
      refine vl_det (det_add rfl rfl (w_i64 (by omega) (by omega))) rfl ?_
      refine vl_det (det_assign rfl) rfl ?_
      refine vl_end [(0, _), (1, _), (5, _)] ⟨rfl, rfl, rfl, trivial⟩ ?_
      refine in_loop_ ⟨_, by omega, k + 1, ⟨by omega, by rw [take_getD (by omega) 0]; simp [hS]; exact fun e => h17 e.symm⟩, rfl, ⟨(by first | rfl | exact int_to (by omega) | exact sl_to (by omega)), (by first | rfl | exact int_to (by omega) | exact sl_to (by omega)), (by first | rfl | exact int_to (by omega) | exact sl_to (by omega)), trivial⟩, .refl _⟩
  · skip
    refine vc_exit ?_
    refine then_exit ?_
    refine loop_exit ?_
    refine in_eq ?_
    refine then_next ?_
    refine vc_seq ?_
    refine vc_region ?_
    refine vl_det (det_assign rfl) rfl ?_
    refine vl_end [(4, _)] ⟨rfl, trivial⟩ ?_
    refine then_next ?_
    refine vc_ret ?_
    refine ret1 rfl rfl ?_
    rw [List.take_of_length_le (by omega)] at hS; rw [decide_eq_false hS]; exact ⟨rfl, rfl⟩
theorem trm_ne {x : RecC} {t : Txt} (h : t ∈ trm x) : t ≠ [] := by
  rcases List.mem_append.1 ((setT_mem _ _).1 h) with h | h
  · have := (word_ok h).1; intro e; rw [e] at this; simp at this
  · obtain ⟨u, hu, rfl⟩ := List.mem_map.1 h
    simp
theorem lsF_mem {f : Nat → List Txt} {n q : Nat} {s : Txt} : q ∈ lsF f n s ↔ q < n ∧ s ∈ f q := by
  unfold lsF; rw [List.mem_filter, List.mem_range]; simp
theorem bldT_mem {f : Nat → List Txt} {n : Nat} {s : Txt} : s ∈ bldT f n ↔ ∃ q, q < n ∧ s ∈ f q := by
  rw [bldT, setT_mem, List.mem_flatMap]; simp only [List.mem_range]
theorem bld_may {L : List RecC} (hw : wsum L ≤ 1000000) (hn : L.length ≤ 20000) : idxOk L.length (bldT (tmF L) L.length) ((bldL (tmF L) L.length).map fun l => l.map (fun (n : Nat) => (n : Int))) := by
  have hl : (bldT (tmF L) L.length).length ≤ wsum L := by
    have h1 := setT_len ((List.range L.length).flatMap (tmF L))
    have h2 := bldT_len L L.length (Nat.le_refl _)
    rw [List.take_length] at h2
    unfold bldT; omega
  have hst : StT (bldT (tmF L) L.length) := setT_st _
  have hm : ∀ t ∈ bldT (tmF L) L.length, t ≠ [] ∧ t.length ≤ 25 := fun t h => by
    obtain ⟨q, _, hq⟩ := bldT_mem.1 h
    exact ⟨trm_ne hq, trm_25 hq⟩
  refine ⟨⟨by omega, by omega⟩, by simp [bldL], ⟨fun i hi => ?_, by omega⟩, fun x hx => ?_⟩
  · obtain ⟨h1, h2⟩ := hm _ (getD_mem hi [])
    refine ⟨h1, h2, ?_⟩
    unfold prvT
    by_cases e : i = 0
    · rw [if_pos e]; exact not_leT_nil h1
    · rw [if_neg e]
      refine not_leT.2 ?_
      have := List.pairwise_iff_getElem.1 hst (i - 1) i (by omega) hi (by omega)
      simpa [List.getD, List.getElem?_eq_getElem hi, List.getElem?_eq_getElem (show i - 1 < (bldT (tmF L) L.length).length by omega)] using this
  · obtain ⟨y, hy, rfl⟩ := List.mem_map.1 hx
    obtain ⟨s, hs, rfl⟩ := List.mem_map.1 hy
    refine ⟨fun e => lsF_ne.2 (bldT_mem.1 hs) (List.map_eq_nil_iff.1 e), (ris_iff _ _).2 fun i hi => ⟨(lsF_mem.1 (getD_mem hi 0)).1, fun h0 => ?_⟩⟩
    have hp : (lsF (tmF L) L.length s).Pairwise (· < ·) := List.Pairwise.sublist List.filter_sublist List.pairwise_lt_range
    have := List.pairwise_iff_getElem.1 hp (i - 1) i (by omega) hi (by omega)
    simpa [List.getD, List.getElem?_eq_getElem hi, List.getElem?_eq_getElem (show i - 1 < (lsF (tmF L) L.length s).length by omega)] using this
theorem bld_get {L : List RecC} {LL : List Lst} (h : LL.map (·.2.2) = bldL (tmF L) L.length) {k : Nat} (hk : k < (bldT (tmF L) L.length).length) : ((toI LL).getD k iNil).2.2 = (lsF (tmF L) L.length ((bldT (tmF L) L.length).getD k [])).map (fun (n : Nat) => (n : Int)) := by
  have e : idsI (toI LL) = (bldL (tmF L) L.length).map fun l => l.map (fun (n : Nat) => (n : Int)) := by rw [toI_ids, h]
  have := congrArg (fun l => l[k]?) e
  simp only [idsI, bldL, List.getElem?_map, List.getElem?_eq_getElem hk, Option.map_some] at this
  cases hq : (toI LL)[k]? with
  | none => rw [hq] at this; simp at this
  | some z =>
    rw [hq] at this
    simp only [Option.map_some, Option.some.injEq] at this
    simp only [List.getD, hq, List.getElem?_eq_getElem hk, Option.getD_some]
    exact this
end Go.Proofs.Ytpamjobiohbibaa
