/-
  Texts of one proof, joined: part 11. No condition.
-/
import Derived.Test.YtpamjobiohbibaaMp10
namespace Go.Proofs.Ytpamjobiohbibaa
open Go.RowKit
set_option linter.unusedVariables false
set_option maxRecDepth 20000
variable {B : Nat} {w0 : World} {F : List Ch} {A A1 A2 : Option Addr} {n c c1 c2 g : Nat}
theorem encL_len {n : Nat} (h : n ≤ 20000) : (encN n).length ≤ 10 := encN_len10 (by omega)
theorem efwrite_bad {bound : Int} {ids : List Int} (hb : Bor B w0 F 1 (.slice A ids.length c) ids.length (ints .i64 ids)) (hl : ids.length ≤ 9000000000000000000) (hE : bound < 0 ∨ 20000 < bound ∨ ¬ Ris bound ids) :
    Does Try.prog B w0 39 [.int .i64 bound, .slice A ids.length c] F (fun r L => ∃ A' c', r = .tuple #[.slice A' 0 c', .int .i64 13] ∧ L = .own 5 1 A' 0 c' [] :: F) := by
  refine fn_walk Try.func39 80 rfl rfl rfl [(0, .int .i64 bound), (1, .slice A ids.length c)] ⟨⟨rfl, rfl⟩, ⟨rfl, rfl⟩, trivial⟩ ?_
  refine vc_seq ?_
  refine vc_region ?_
  refine vl_det (det_assign rfl) rfl ?_
  refine vl_det (det_assign rfl) rfl ?_
  refine vl_end [(0, _), (1, _)] ⟨rfl, rfl, trivial⟩ ?_
  refine then_next ?_
  refine vc_seq ?_
  refine vc_seq ?_
  refine vc_region ?_
  refine vl_cut 12 27 [(0, _), (1, _)] (bound < 0 ∨ 20000 < bound ∨ ¬ Ris bound ids) ⟨rfl, rfl, trivial⟩ ?_ ?_
  · skip
    refine vl_det (det_move rfl) rfl ?_
    refine vl_det (det_lss rfl rfl) rfl ?_
    refine vl_det (det_move rfl) rfl ?_
    refine vl_guardn rfl rfl rfl (fun h18 => ?_) (fun h18 => ?_)
    · skip
      refine vl_det (det_move rfl) rfl ?_
      refine vl_guard_t rfl rfl ?_
      refine vl_det (det_gtr rfl rfl) rfl ?_
      refine vl_det (det_pick_f rfl rfl) rfl ?_
      refine vl_det (det_move rfl) rfl ?_
      refine vl_guardn rfl rfl rfl (fun h22 => ?_) (fun h22 => ?_)
      · skip
        refine vl_det (det_move rfl) rfl ?_
        refine vl_guard_t rfl rfl ?_
        refine vl_det (det_move rfl) rfl ?_
        refine vl_guard_t rfl rfl ?_
        refine vl_call co65 rfl (rises_d bound ids hb hl) rfl ?_
        rintro _ _ ⟨rfl, hLL⟩
        obtain rfl := hLL.symm
        refine vl_guard_t rfl rfl ?_
        refine vl_det (det_notd rfl) rfl ?_
        refine vl_det (det_pick_f rfl rfl) rfl ?_
        exact vl_cut_end ⟨rfl, rfl, trivial⟩ (by first | rfl | exact bool_to_t (by first | exact .inl (by omega) | exact .inr (.inl (by omega)) | exact ⟨fun h => .inr (.inr h), fun h => by rcases h with h | h | h <;> first | omega | exact h⟩) | exact bool_to_f (by first | exact .inl (by omega) | exact .inr (.inl (by omega)) | exact ⟨fun h => .inr (.inr h), fun h => by rcases h with h | h | h <;> first | omega | exact h⟩) | exact bool_to (by first | exact .inl (by omega) | exact .inr (.inl (by omega)) | exact ⟨fun h => .inr (.inr h), fun h => by rcases h with h | h | h <;> first | omega | exact h⟩) | exact bool_to_b (by first | exact .inl (by omega) | exact .inr (.inl (by omega)) | exact ⟨fun h => .inr (.inr h), fun h => by rcases h with h | h | h <;> first | omega | exact h⟩))
      · skip
        refine vl_guard_f rfl rfl rfl rfl ?_
        refine vl_guard_f rfl rfl rfl rfl ?_
        refine vl_guard_f rfl rfl rfl rfl ?_
        refine vl_det (det_pick_t rfl rfl) rfl ?_
        exact vl_cut_end ⟨rfl, rfl, trivial⟩ (by first | rfl | exact bool_to_t (by first | exact .inl (by omega) | exact .inr (.inl (by omega)) | exact ⟨fun h => .inr (.inr h), fun h => by rcases h with h | h | h <;> first | omega | exact h⟩) | exact bool_to_f (by first | exact .inl (by omega) | exact .inr (.inl (by omega)) | exact ⟨fun h => .inr (.inr h), fun h => by rcases h with h | h | h <;> first | omega | exact h⟩) | exact bool_to (by first | exact .inl (by omega) | exact .inr (.inl (by omega)) | exact ⟨fun h => .inr (.inr h), fun h => by rcases h with h | h | h <;> first | omega | exact h⟩) | exact bool_to_b (by first | exact .inl (by omega) | exact .inr (.inl (by omega)) | exact ⟨fun h => .inr (.inr h), fun h => by rcases h with h | h | h <;> first | omega | exact h⟩))
    · skip
      refine vl_guard_f rfl rfl rfl rfl ?_
      refine vl_det (det_pick_t rfl rfl) rfl ?_
      refine vl_det (det_move rfl) rfl ?_
      refine vl_guard_f rfl rfl rfl rfl ?_
      refine vl_guard_f rfl rfl rfl rfl ?_
      refine vl_guard_f rfl rfl rfl rfl ?_
      refine vl_guard_f rfl rfl rfl rfl ?_
      refine vl_det (det_pick_t rfl rfl) rfl ?_
      exact vl_cut_end ⟨rfl, rfl, trivial⟩ (by first | rfl | exact bool_to_t (by first | exact .inl (by omega) | exact .inr (.inl (by omega)) | exact ⟨fun h => .inr (.inr h), fun h => by rcases h with h | h | h <;> first | omega | exact h⟩) | exact bool_to_f (by first | exact .inl (by omega) | exact .inr (.inl (by omega)) | exact ⟨fun h => .inr (.inr h), fun h => by rcases h with h | h | h <;> first | omega | exact h⟩) | exact bool_to (by first | exact .inl (by omega) | exact .inr (.inl (by omega)) | exact ⟨fun h => .inr (.inr h), fun h => by rcases h with h | h | h <;> first | omega | exact h⟩) | exact bool_to_b (by first | exact .inl (by omega) | exact .inr (.inl (by omega)) | exact ⟨fun h => .inr (.inr h), fun h => by rcases h with h | h | h <;> first | omega | exact h⟩))
  · skip
    refine vl_end [(0, _), (1, _), (27, _)] ⟨rfl, rfl, rfl, trivial⟩ ?_
    refine then_next ?_
    refine vc_decideU rfl (fun h27 => ?_) (fun h27 => ?_)
    · skip
      refine vc_seq ?_
      refine vc_region ?_
      refine vl_det (det_assign rfl) rfl ?_
      refine vl_det (det_assign rfl) rfl ?_
      refine vl_end [(4, _), (5, _)] ⟨rfl, rfl, trivial⟩ ?_
      refine then_next ?_
      refine vc_ret ?_
      refine then_ret ?_
      refine ret_nil_row 5 1 none ?_
      refine ret2 rfl rfl rfl ?_
      exact ⟨none, 0, rfl, rfl⟩
    · skip
      exfalso; exact h27 hE
theorem efwrite_ok {b : Nat} {xs : List Nat} (hb : Bor B w0 F 1 (.slice A xs.length c) xs.length (natv xs)) (hb2 : b ≤ 20000) (hR : RisN b xs) :
    Does Try.prog B w0 39 [.int .i64 b, .slice A xs.length c] F (fun r L => ∃ A' c', r = .tuple #[.slice A' (efB b xs).length c', .int .i64 0] ∧ L = .own 5 1 A' (efB b xs).length c' (bv (efB b xs)) :: F) := by
  have hlen := hR.len
  have hi : Ris b (xs.map (fun (n : Nat) => (n : Int))) := (ris_iff b xs).2 hR
  have hr := rises_d (B := B) (w0 := w0) (F := F) (A := A) (c := c) (b : Int) (xs.map (fun (n : Nat) => (n : Int))) (by rw [ints_nat, List.length_map]; exact hb) (by rw [List.length_map]; omega)
  rw [List.length_map] at hr
  have hwl := wid_le (n := xs.length) hb2
  obtain ⟨w, hw⟩ : ∃ w, w = wid b xs.length := ⟨_, rfl⟩
  rw [← hw] at hwl
  obtain ⟨p, hp⟩ : ∃ p, p = 2 ^ w := ⟨_, rfl⟩
  have hp0 : 1 ≤ p := by rw [hp]; exact Nat.one_le_two_pow
  have hel := encL_len (n := xs.length) (by omega)
  have heB0 : xs.length = 0 → efB b xs = encN xs.length := fun h => by unfold efB; rw [if_pos h]; simp
  have heB1 : ¬ xs.length = 0 → efB b xs = encN xs.length ++ packed (loS p w xs ++ unS p 0 xs) := fun h => by unfold efB efQ; rw [if_neg h, ← hw, ← hp]
  have hql := efQ_len (p := p) (w := w) hR hb2 hwl
  unfold efQ at hql
  have hpl := packed_length (loS p w xs ++ unS p 0 xs)
  refine fn_walk Try.func39 80 rfl rfl rfl [(0, .int .i64 b), (1, .slice A xs.length c)] ⟨⟨rfl, rfl⟩, ⟨rfl, rfl⟩, trivial⟩ ?_
  refine vc_seq ?_
  refine vc_region ?_
  refine vl_det (det_assign rfl) rfl ?_
  refine vl_det (det_assign rfl) rfl ?_
  refine vl_end [(0, _), (1, _)] ⟨rfl, rfl, trivial⟩ ?_
  refine then_next ?_
  refine vc_seq ?_
  refine vc_seq ?_
  refine vc_region ?_
  refine vl_det (det_move rfl) rfl ?_
  refine vl_det (det_lss rfl rfl) rfl ?_
  refine vl_det (det_move rfl) rfl ?_
  refine vl_guardn rfl rfl rfl (fun h18 => ?_) (fun h18 => ?_)
  · skip
    refine vl_det (det_move rfl) rfl ?_
    refine vl_guard_t rfl rfl ?_
    refine vl_det (det_gtr rfl rfl) rfl ?_
    refine vl_det (det_pick_f rfl rfl) rfl ?_
    refine vl_det (det_move rfl) rfl ?_
    refine vl_guardn rfl rfl rfl (fun h22 => ?_) (fun h22 => ?_)
    · skip
      refine vl_det (det_move rfl) rfl ?_
      refine vl_guard_t rfl rfl ?_
      refine vl_det (det_move rfl) rfl ?_
      refine vl_guard_t rfl rfl ?_
      refine vl_call co65 rfl (hr) rfl ?_
      rintro _ _ ⟨rfl, hLL⟩
      obtain rfl := hLL.symm
      refine vl_guard_t rfl rfl ?_
      refine vl_det (det_notd rfl) rfl ?_
      refine vl_det (det_pick_f rfl rfl) rfl ?_
      refine vl_end [(0, _), (1, _), (27, _)] ⟨rfl, rfl, rfl, trivial⟩ ?_
      refine then_next ?_
      refine vc_decideU rfl (fun h27 => ?_) (fun h27 => ?_)
      · skip
        exfalso; exact h27 hi
      · skip
        refine vc_skip ?_
        refine then_next ?_
        refine vc_seq ?_
        refine vc_region ?_
        refine vl_det (det_move rfl) rfl ?_
        refine vl_det (det_len_sl Try.underlying37 rfl) rfl ?_
        refine vl_det (det_conv Try.underlying3 Try.underlying33 rfl (w_u64 (by omega) (by omega))) rfl ?_
        refine vl_call co62 rfl (num_d xs.length (by omega)) rfl ?_
        rintro _ _ ⟨A31, c31, rfl, hLL⟩
        obtain rfl := hLL.symm
        refine vl_det (det_assign rfl) rfl ?_
        refine vl_end [(0, _), (1, _), (6, _)] ⟨rfl, rfl, rfl, trivial⟩ ?_
        refine then_next ?_
        refine vc_seq ?_
        refine vc_seq ?_
        refine vc_region ?_
        refine vl_det (det_move rfl) rfl ?_
        refine vl_det (det_len_sl Try.underlying37 rfl) rfl ?_
        refine vl_det (det_eql rfl rfl) rfl ?_
        refine vl_end [(0, _), (1, _), (6, _), (34, _)] ⟨rfl, rfl, rfl, rfl, trivial⟩ ?_
        refine then_next ?_
        refine vc_decideU rfl (fun h34 => ?_) (fun h34 => ?_)
        · skip
          refine vc_seq ?_
          refine vc_region ?_
          refine vl_det (det_move rfl) rfl ?_
          refine vl_det (det_assign rfl) rfl ?_
          refine vl_det (det_assign rfl) rfl ?_
          refine vl_end [(4, _), (5, _)] ⟨rfl, rfl, trivial⟩ ?_
          refine then_next ?_
          refine vc_ret ?_
          refine then_ret ?_
          rw [heB0 (by omega)]
          refine ret2 rfl rfl rfl ?_
          exact ⟨A31, c31, rfl, rfl⟩
        · skip
          refine vc_skip ?_
          refine then_next ?_
          refine vc_seq ?_
          refine vc_region ?_
          refine vl_det (det_move rfl) rfl ?_
          refine vl_det (det_move rfl) rfl ?_
          refine vl_det (det_len_sl Try.underlying37 rfl) rfl ?_
          refine vl_call co66 rfl (width_d b xs.length hb2 (by omega) hlen) rfl ?_
          rintro _ _ ⟨rfl, hLL⟩
          obtain rfl := hLL.symm
          rw [← hw]
          refine vl_det (det_buildp [(0, _)] [.int .i64 0, .slice none 0 0, .slice none 0 0] [0] [_, _, _] rfl rfl (by kernel_rfl)) rfl ?_
          refine vl_eff (eff_alloc_z (zv := (.agg #[.int .i64 0, .slice none 0 0, .slice none 0 0])) (by kernel_rfl) rfl) rfl ?_
          rintro _ _ ⟨g7, rfl, rfl⟩
          refine vl_eff0 (eff_store_whole 3 (by kernel_rfl) rfl rfl (by first | exact bv_one _ | exact strs_one _ | exact ints_one _ _ | (simp; done) | (simp [Value.oneCell']; done) | assumption) (by repeat (first | exact .hd | apply Sel.tl)) (by first | rfl | (simp; omega) | (simp [*]; done)) (by first | rfl | (simp; omega) | (simp [*]; done))) ?_
          rintro _ _ rfl
          refine vl_end [(1, _), (6, _), (7, _)] ⟨rfl, rfl, rfl, trivial⟩ ?_
          refine then_next ?_
          refine vc_seq ?_
          refine vc_seq ?_
          refine vc_nil_row 47 1 none ?_
          refine vc_nil_row 3 1 none ?_
          refine vc_region ?_
          refine vl_det (det_move rfl) rfl ?_
          refine vl_det (det_len_sl Try.underlying37 rfl) rfl ?_
          refine vl_det (det_move rfl) rfl ?_
          refine vl_end [(6, _), (7, _), (41, _), (42, _), (43, _)] ⟨rfl, rfl, rfl, rfl, rfl, trivial⟩ ?_
          refine then_next ?_
          refine vc_block ?_
          refine vc_loopJ (fun zf zL zm => ∃ (k : Nat) (P1 : Option Addr) (p1 : Nat) (P2 : Option Addr) (p2 : Nat), (k ≤ xs.length) ∧ xs.length - k = zm ∧ Sub zf [(6, .slice A31 (encN xs.length).length c31), (7, .pointer (some ⟨g7, 0, none⟩)), (41, .slice A xs.length c), (42, .int .i64 xs.length), (43, .int .i64 k)] ∧ Wk zL (Pt g7 103 w p P1 p1 P2 p2 (xs.take k) (.own 5 1 A31 (encN xs.length).length c31 (bv (encN xs.length)) :: F))) _ ⟨0, none, 0, none, 0, Nat.zero_le _, rfl, ⟨(by first | rfl | exact int_to (by omega) | exact sl_to (by omega)), (by first | rfl | exact int_to (by omega) | exact sl_to (by omega)), (by first | rfl | exact int_to (by omega) | exact sl_to (by omega)), (by first | rfl | exact int_to (by omega) | exact sl_to (by omega)), (by first | rfl | exact int_to (by omega) | exact sl_to (by omega)), trivial⟩, .of_perm swp3⟩ ?_
          rintro _ _ _ ⟨k, P1, p1, P2, p2, hk, rfl, hs, hp⟩
          refine vc_weaken _ hs (vc_wk hp ?_)
          clear hs hp
          refine vc_seq ?_
          refine vc_region ?_
          refine vl_det (det_lss rfl rfl) rfl ?_
          refine vl_end [(6, _), (7, _), (41, _), (42, _), (43, _), (44, _)] ⟨rfl, rfl, rfl, rfl, rfl, rfl, trivial⟩ ?_
          refine then_next ?_
          refine vc_seq ?_
          refine vc_decideU rfl (fun h44 => ?_) (fun h44 => ?_)
          · skip
            have hxk := (hR k (by omega)).1
            have htl := List.length_take_le k xs
            refine vc_skip ?_
            refine then_next ?_
            refine vc_seq ?_
            refine vc_block ?_
            refine vc_seq ?_
            refine vc_region ?_
            refine vl_det (det_indexAddr (size := 1) Try.underlying37 (by kernel_rfl) rfl rfl rfl (by omega) (by first | (exact Bor.own (by repeat (first | exact List.Mem.head _ | apply List.Mem.tail))) | (repeat (first | assumption | apply Bor.cons)))) rfl ?_
            refine vl_det (det_load_row (by kernel_rfl) rfl (by first | (exact Bor.own (by repeat (first | exact List.Mem.head _ | apply List.Mem.tail))) | (repeat (first | assumption | apply Bor.cons))) (by omega) (natv_get (by omega))) rfl ?_
            refine vl_det (det_assign rfl) rfl ?_
            refine vl_end [(6, _), (7, _), (9, _), (41, _), (42, _), (43, _)] ⟨rfl, rfl, rfl, rfl, rfl, rfl, trivial⟩ ?_
            refine then_next ?_
            refine vc_region ?_
            refine vl_det (det_move rfl) rfl ?_
            refine vl_call co67 rfl (padd_d 103 hp hwl (xs.take k) (xs.getD k 0) (by omega) (by omega)) rfl ?_
            rintro _ _ ⟨rfl, P48, p48, Q48, q48, hLL⟩
            obtain rfl := hLL.symm
            refine vl_end [(6, _), (7, _), (41, _), (42, _), (43, _)] ⟨rfl, rfl, rfl, rfl, rfl, trivial⟩ ?_
            refine in_normal ?_
            refine then_next ?_
            refine vc_region ?_
            refine vl_det (det_add rfl rfl (w_i64 (by omega) (by omega))) rfl ?_
            refine vl_det (det_move rfl) rfl ?_
            refine vl_end [(6, _), (7, _), (41, _), (42, _), (43, _)] ⟨rfl, rfl, rfl, rfl, rfl, trivial⟩ ?_
            refine in_loop_ ⟨_, by omega, k + 1, P48, p48, Q48, q48, by omega, rfl, ⟨(by first | rfl | exact int_to (by omega) | exact sl_to (by omega)), (by first | rfl | exact int_to (by omega) | exact sl_to (by omega)), (by first | rfl | exact int_to (by omega) | exact sl_to (by omega)), (by first | rfl | exact int_to (by omega) | exact sl_to (by omega)), (by first | rfl | exact int_to (by omega) | exact sl_to (by omega)), trivial⟩, by rw [take_getD (show k < xs.length by omega) 0]; exact .refl _⟩
          · skip
            obtain rfl : k = xs.length := by omega
            rw [List.take_length]
            refine vc_exit ?_
            refine then_exit ?_
            refine loop_exit ?_
            refine in_eq ?_
            refine then_next ?_
            refine vc_seq ?_
            refine vc_region ?_
            refine vl_eff (eff_alloc_z (zv := (.agg #[.slice none 0 0, .int .i64 0])) (by kernel_rfl) rfl) rfl ?_
            rintro _ _ ⟨g10, rfl, rfl⟩
            refine vl_end [(6, _), (7, _), (10, _)] ⟨rfl, rfl, rfl, trivial⟩ ?_
            refine then_next ?_
            refine vc_seq ?_
            refine vc_seq ?_
            refine vc_nil_row 5 1 none ?_
            refine vc_region ?_
            refine vl_det (det_fieldAddr_ Try.underlying103 rfl (by kernel_rfl) rfl rfl) rfl ?_
            refine vl_det (det_load_blk (by kernel_rfl) rfl (by repeat (first | exact .hd | apply Sel.tl)) rfl) rfl ?_
            refine vl_det (det_len_sl Try.underlying101 rfl) rfl ?_
            refine vl_det (det_move rfl) rfl ?_
            refine vl_end [(6, _), (7, _), (10, _), (51, _), (52, _), (53, _)] ⟨rfl, rfl, rfl, rfl, rfl, rfl, trivial⟩ ?_
            refine then_next ?_
            refine vc_block ?_
            refine vc_loopJ (fun zf zL zm => ∃ (k : Nat) (A8 : Option Addr) (c8 : Nat), (k ≤ xs.length) ∧ xs.length - k = zm ∧ Sub zf [(6, .slice A31 (encN xs.length).length c31), (7, .pointer (some ⟨g7, 0, none⟩)), (10, .pointer (some ⟨g10, 0, none⟩)), (51, .slice P2 xs.length p2), (52, .int .i64 xs.length), (53, .int .i64 k)] ∧ Wk zL (Wr g10 108 A8 c8 (loS p w (xs.take k)) (Pt g7 103 w p P1 p1 P2 p2 xs (.own 5 1 A31 (encN xs.length).length c31 (bv (encN xs.length)) :: F)))) _ ⟨0, none, 0, Nat.zero_le _, rfl, ⟨(by first | rfl | exact int_to (by omega) | exact sl_to (by omega)), (by first | rfl | exact int_to (by omega) | exact sl_to (by omega)), (by first | rfl | exact int_to (by omega) | exact sl_to (by omega)), (by first | rfl | exact int_to (by omega) | exact sl_to (by omega)), (by first | rfl | exact int_to (by omega) | exact sl_to (by omega)), (by first | rfl | exact int_to (by omega) | exact sl_to (by omega)), trivial⟩, by rw [show loS p w (xs.take 0) = [] from rfl]; exact .of_perm swp⟩ ?_
            rintro _ _ _ ⟨k, A8, c8, hk2, rfl, hs, hp⟩
            refine vc_weaken _ hs (vc_wk hp ?_)
            clear hs hp
            refine vc_seq ?_
            skip
            refine vc_region ?_
            refine vl_det (det_lss rfl rfl) rfl ?_
            refine vl_end [(6, _), (7, _), (10, _), (51, _), (52, _), (53, _), (54, _)] ⟨rfl, rfl, rfl, rfl, rfl, rfl, rfl, trivial⟩ ?_
            refine then_next ?_
            refine vc_seq ?_
            refine vc_decideU rfl (fun h54 => ?_) (fun h54 => ?_)
            · skip
              have hxk := (hR k (by omega)).1
              have hmod : xs.getD k 0 % p < p := Nat.mod_lt _ hp0
              have hpb : p ≤ 16384 := by rw [hp]; exact pow_le14 hwl
              have hLo : (u16v (xs.map (· % p)))[k * 1]? = some (.int .u16 (xs.getD k 0 % p : Nat)) := by simp [u16v, List.getD, List.getElem?_eq_getElem (show k < xs.length by omega)]
              have hll := loS_length p w (xs.take k)
              have hlm : (xs.take k).length * w ≤ 20000 * 14 := Nat.mul_le_mul (by rw [List.length_take]; omega) hwl
              refine vc_skip ?_
              refine then_next ?_
              refine vc_seq ?_
              refine vc_block ?_
              refine vc_seq ?_
              refine vc_region ?_
              refine vl_det (det_indexAddr (size := 1) Try.underlying101 (by kernel_rfl) rfl rfl rfl (by omega) (by first | (exact Bor.own (by repeat (first | exact List.Mem.head _ | apply List.Mem.tail))) | (repeat (first | assumption | apply Bor.cons)))) rfl ?_
              refine vl_det (det_load_row (by kernel_rfl) rfl (by first | (exact Bor.own (by repeat (first | exact List.Mem.head _ | apply List.Mem.tail))) | (repeat (first | assumption | apply Bor.cons))) (by omega) hLo) rfl ?_
              refine vl_det (det_assign rfl) rfl ?_
              refine vl_end [(6, _), (7, _), (10, _), (12, _), (51, _), (52, _), (53, _)] ⟨rfl, rfl, rfl, rfl, rfl, rfl, rfl, trivial⟩ ?_
              refine then_next ?_
              refine vc_region ?_
              refine vl_det (det_move rfl) rfl ?_
              refine vl_det (det_conv Try.underlying47 Try.underlying33 rfl (w_u64 (by omega) (by omega))) rfl ?_
              refine vl_det (det_fieldAddr_ Try.underlying103 rfl (by kernel_rfl) rfl rfl) rfl ?_
              refine vl_det (det_load_blk (by kernel_rfl) rfl (by repeat (first | exact .hd | apply Sel.tl)) rfl) rfl ?_
              refine vl_call co68 rfl (put_d (loS p w (xs.take k)) (xs.getD k 0 % p) (by omega) w (by omega) (by rw [← hp]; exact hmod) (by omega)) rfl ?_
              rintro _ _ ⟨rfl, A61, c61, hLL⟩
              obtain rfl := hLL.symm
              refine vl_end [(6, _), (7, _), (10, _), (51, _), (52, _), (53, _)] ⟨rfl, rfl, rfl, rfl, rfl, rfl, trivial⟩ ?_
              refine in_normal ?_
              refine then_next ?_
              refine vc_region ?_
              refine vl_det (det_add rfl rfl (w_i64 (by omega) (by omega))) rfl ?_
              refine vl_det (det_move rfl) rfl ?_
              refine vl_end [(6, _), (7, _), (10, _), (51, _), (52, _), (53, _)] ⟨rfl, rfl, rfl, rfl, rfl, rfl, trivial⟩ ?_
              refine in_loop_ ⟨_, by omega, k + 1, A61, c61, by omega, rfl, ⟨(by first | rfl | exact int_to (by omega) | exact sl_to (by omega)), (by first | rfl | exact int_to (by omega) | exact sl_to (by omega)), (by first | rfl | exact int_to (by omega) | exact sl_to (by omega)), (by first | rfl | exact int_to (by omega) | exact sl_to (by omega)), (by first | rfl | exact int_to (by omega) | exact sl_to (by omega)), (by first | rfl | exact int_to (by omega) | exact sl_to (by omega)), trivial⟩, by rw [take_getD (show k < xs.length by omega) 0, loS_snoc]; exact .refl _⟩
            · skip
              obtain rfl : k = xs.length := by omega
              rw [List.take_length]
              refine vc_exit ?_
              refine then_exit ?_
              refine loop_exit ?_
              refine in_eq ?_
              refine then_next ?_
              refine vc_seq ?_
              refine vc_region ?_
              refine vl_det (det_assign rfl) rfl ?_
              refine vl_end [(6, _), (7, _), (10, _), (13, _)] ⟨rfl, rfl, rfl, rfl, trivial⟩ ?_
              refine then_next ?_
              refine vc_seq ?_
              refine vc_seq ?_
              refine vc_region ?_
              refine vl_det (det_fieldAddr_ Try.underlying103 rfl (by kernel_rfl) rfl rfl) rfl ?_
              refine vl_det (det_load_blk (by kernel_rfl) rfl (by repeat (first | exact .hd | apply Sel.tl)) rfl) rfl ?_
              refine vl_det (det_len_sl Try.underlying37 rfl) rfl ?_
              refine vl_det (det_move rfl) rfl ?_
              refine vl_end [(6, _), (10, _), (13, _), (64, _), (65, _), (66, _)] ⟨rfl, rfl, rfl, rfl, rfl, rfl, trivial⟩ ?_
              refine then_next ?_
              refine vc_block ?_
              refine vc_loopJ (fun zf zL zm => ∃ (k : Nat) (A9 : Option Addr) (c9 : Nat), (k ≤ xs.length) ∧ xs.length - k = zm ∧ Sub zf [(6, .slice A31 (encN xs.length).length c31), (10, .pointer (some ⟨g10, 0, none⟩)), (13, .int .i64 (lastP p 0 (xs.take k))), (64, .slice P1 xs.length p1), (65, .int .i64 xs.length), (66, .int .i64 k)] ∧ Wk zL (Wr g10 108 A9 c9 (loS p w xs ++ unS p 0 (xs.take k)) (Pt g7 103 w p P1 p1 P2 p2 xs (.own 5 1 A31 (encN xs.length).length c31 (bv (encN xs.length)) :: F)))) _ ⟨0, A8, c8, Nat.zero_le _, rfl, ⟨(by first | rfl | exact int_to (by omega) | exact sl_to (by omega)), (by first | rfl | exact int_to (by omega) | exact sl_to (by omega)), (by first | rfl | exact int_to (by omega) | exact sl_to (by omega)), (by first | rfl | exact int_to (by omega) | exact sl_to (by omega)), (by first | rfl | exact int_to (by omega) | exact sl_to (by omega)), (by first | rfl | exact int_to (by omega) | exact sl_to (by omega)), trivial⟩, by rw [List.take_zero]; simp only [unS, List.append_nil]; exact .refl _⟩ ?_
              rintro _ _ _ ⟨k, A9, c9, hk3, rfl, hs, hp⟩
              refine vc_weaken _ hs (vc_wk hp ?_)
              clear hs hp
              refine vc_seq ?_
              refine vc_region ?_
              refine vl_det (det_lss rfl rfl) rfl ?_
              refine vl_end [(6, _), (10, _), (13, _), (64, _), (65, _), (66, _), (67, _)] ⟨rfl, rfl, rfl, rfl, rfl, rfl, rfl, trivial⟩ ?_
              refine then_next ?_
              refine vc_seq ?_
              refine vc_decideU rfl (fun h67 => ?_) (fun h67 => ?_)
              · skip
                have hxk := (hR k (by omega)).1
                have hdv := Nat.div_le_self (xs.getD k 0) p
                have hlp := lastP_le (p := p) hR (k := k) (by omega)
                have hHi : (natv (xs.map (· / p)))[k * 1]? = some (.int .i64 (xs.getD k 0 / p : Nat)) := by simp [natv, List.getD, List.getElem?_eq_getElem (show k < xs.length by omega)]
                have hul := unS_length (p := p) hR k (by omega)
                have hlb := lastP_bd (p := p) hR k (by omega)
                have hll := loS_length p w xs
                have hlm : xs.length * w ≤ 20000 * 14 := Nat.mul_le_mul (by omega) hwl
                have hlt := lastP_take (p := p) (xs := xs) (k := k) (by omega)
                refine vc_skip ?_
                refine then_next ?_
                refine vc_seq ?_
                refine vc_block ?_
                refine vc_seq ?_
                refine vc_region ?_
                refine vl_det (det_indexAddr (size := 1) Try.underlying37 (by kernel_rfl) rfl rfl rfl (by omega) (by first | (exact Bor.own (by repeat (first | exact List.Mem.head _ | apply List.Mem.tail))) | (repeat (first | assumption | apply Bor.cons)))) rfl ?_
                refine vl_det (det_load_row (by kernel_rfl) rfl (by first | (exact Bor.own (by repeat (first | exact List.Mem.head _ | apply List.Mem.tail))) | (repeat (first | assumption | apply Bor.cons))) (by omega) hHi) rfl ?_
                refine vl_det (det_assign rfl) rfl ?_
                refine vl_end [(6, _), (10, _), (13, _), (15, _), (64, _), (65, _), (66, _)] ⟨rfl, rfl, rfl, rfl, rfl, rfl, rfl, trivial⟩ ?_
                refine then_next ?_
                refine vc_seq ?_
                refine vc_region ?_
                refine vl_det (det_move rfl) rfl ?_
                refine vl_det (det_move rfl) rfl ?_
                refine vl_det (det_sub rfl rfl (r := ((xs.getD k 0 / p - lastP p 0 (xs.take k) : Nat) : Int)) ((w_i64 (by omega) (by omega)).trans (by omega))) rfl ?_
                refine vl_call co69 rfl (unary_d (loS p w xs ++ unS p 0 (xs.take k)) (xs.getD k 0 / p - lastP p 0 (xs.take k)) (by omega) (by rw [List.length_append]; omega)) rfl ?_
                rintro _ _ ⟨rfl, A73, c73, hLL⟩
                obtain rfl := hLL.symm
                refine vl_end [(6, _), (10, _), (15, _), (64, _), (65, _), (66, _)] ⟨rfl, rfl, rfl, rfl, rfl, rfl, trivial⟩ ?_
                refine then_next ?_
                refine vc_region ?_
                refine vl_det (det_move rfl) rfl ?_
                refine vl_det (det_assign rfl) rfl ?_
                refine vl_end [(6, _), (10, _), (13, _), (64, _), (65, _), (66, _)] ⟨rfl, rfl, rfl, rfl, rfl, rfl, trivial⟩ ?_
                refine in_normal ?_
                refine then_next ?_
                refine vc_region ?_
                refine vl_det (det_add rfl rfl (w_i64 (by omega) (by omega))) rfl ?_
                refine vl_det (det_move rfl) rfl ?_
                refine vl_end [(6, _), (10, _), (13, _), (64, _), (65, _), (66, _)] ⟨rfl, rfl, rfl, rfl, rfl, rfl, trivial⟩ ?_
                refine in_loop_ ⟨_, by omega, k + 1, A73, c73, by omega, rfl, ⟨(by first | rfl | exact int_to (by omega) | exact sl_to (by omega)), (by first | rfl | exact int_to (by omega) | exact sl_to (by omega)), (by first | rfl | exact int_to (by omega) | exact sl_to (by omega)), (by first | rfl | exact int_to (by omega) | exact sl_to (by omega)), (by first | rfl | exact int_to (by omega) | exact sl_to (by omega)), (by first | rfl | exact int_to (by omega) | exact sl_to (by omega)), trivial⟩, by rw [take_getD (show k < xs.length by omega) 0, unS_snoc, ← List.append_assoc]; exact .refl _⟩
              · skip
                obtain rfl : k = xs.length := by omega
                rw [List.take_length]
                refine vc_exit ?_
                refine then_exit ?_
                refine loop_exit ?_
                refine in_eq ?_
                refine then_next ?_
                refine vc_seq ?_
                refine vc_region ?_
                refine vl_det (det_move rfl) rfl ?_
                refine vl_call co70 rfl (bytes_d _ (by omega)) rfl ?_
                rintro _ _ ⟨A77, c77, rfl, hLL⟩
                obtain rfl := hLL.symm
                refine vl_eff (eff_build_lit slT69 [_, _] rfl rfl (by first | exact bv_one _ | exact strs_one _ | exact ints_one _ _ | (simp; done) | (simp [Value.oneCell']; done) | assumption) (by omega) (by omega)) rfl ?_
                rintro _ _ ⟨A78, rfl, rfl⟩
                refine vl_call co40 rfl (all_d (l := efB b xs) (P := [(.slice A31 (encN xs.length).length c31, encN xs.length), (.slice A77 (packed (loS p w xs ++ unS p 0 xs)).length c77, packed (loS p w xs ++ unS p 0 xs))]) (by first | (exact Bor.own (by repeat (first | exact List.Mem.head _ | apply List.Mem.tail))) | (repeat (first | assumption | apply Bor.cons))) (by intro y hy; simp only [List.mem_cons, List.not_mem_nil, or_false] at hy; rcases hy with rfl | rfl <;> exact (by first | (exact Bor.own (by repeat (first | exact List.Mem.head _ | apply List.Mem.tail))) | (repeat (first | assumption | apply Bor.cons)))) rfl (by rw [heB1 (by omega)]; simp [Parts.all]) (by rw [heB1 (by omega), List.length_append]; omega) (by simp)) rfl ?_
                rintro _ _ ⟨A79, c79, rfl, hLL⟩
                obtain rfl := hLL.symm
                refine vl_det (det_assign rfl) rfl ?_
                refine vl_det (det_assign rfl) rfl ?_
                refine vl_end [(4, _), (5, _)] ⟨rfl, rfl, trivial⟩ ?_
                refine then_next ?_
                refine vc_ret ?_
                refine ret_wk (L' := .own 5 1 A79 (efB b xs).length c79 (bv (efB b xs)) :: F) (.cons (.skip (.skip (.skip (.skip (.skip (.skip (.skip (.skip (.refl _)))))))))) ?_
                refine ret2 rfl rfl rfl ?_
                exact ⟨A79, c79, rfl, rfl⟩
    · skip
      exfalso; omega
  · skip
    exfalso; omega
theorem rwrite_bad {bound : Int} {ids : List Int} (hb : Bor B w0 F 1 (.slice A ids.length c) ids.length (ints .i64 ids)) (hl : ids.length ≤ 9000000000000000000) (hE : bound < 0 ∨ 20000 < bound ∨ ¬ Ris bound ids) :
    Does Try.prog B w0 42 [.int .i64 bound, .slice A ids.length c] F (fun r L => ∃ A' c', r = .tuple #[.slice A' 0 c', .int .i64 13] ∧ L = .own 5 1 A' 0 c' [] :: F) := by
  refine fn_walk Try.func42 81 rfl rfl rfl [(0, .int .i64 bound), (1, .slice A ids.length c)] ⟨⟨rfl, rfl⟩, ⟨rfl, rfl⟩, trivial⟩ ?_
  refine vc_seq ?_
  refine vc_region ?_
  refine vl_det (det_assign rfl) rfl ?_
  refine vl_det (det_assign rfl) rfl ?_
  refine vl_end [(0, _), (1, _)] ⟨rfl, rfl, trivial⟩ ?_
  refine then_next ?_
  refine vc_seq ?_
  refine vc_seq ?_
  refine vc_region ?_
  refine vl_cut 12 24 [(0, _), (1, _)] (bound < 0 ∨ 20000 < bound ∨ ¬ Ris bound ids) ⟨rfl, rfl, trivial⟩ ?_ ?_
  · skip
    refine vl_det (det_move rfl) rfl ?_
    refine vl_det (det_lss rfl rfl) rfl ?_
    refine vl_det (det_move rfl) rfl ?_
    refine vl_guardn rfl rfl rfl (fun h15 => ?_) (fun h15 => ?_)
    · skip
      refine vl_det (det_move rfl) rfl ?_
      refine vl_guard_t rfl rfl ?_
      refine vl_det (det_gtr rfl rfl) rfl ?_
      refine vl_det (det_pick_f rfl rfl) rfl ?_
      refine vl_det (det_move rfl) rfl ?_
      refine vl_guardn rfl rfl rfl (fun h19 => ?_) (fun h19 => ?_)
      · skip
        refine vl_det (det_move rfl) rfl ?_
        refine vl_guard_t rfl rfl ?_
        refine vl_det (det_move rfl) rfl ?_
        refine vl_guard_t rfl rfl ?_
        refine vl_call co44 rfl (may_d bound ids hb hl) rfl ?_
        rintro _ _ ⟨rfl, hLL⟩
        obtain rfl := hLL.symm
        refine vl_guard_t rfl rfl ?_
        refine vl_det (det_notd rfl) rfl ?_
        refine vl_det (det_pick_f rfl rfl) rfl ?_
        exact vl_cut_end ⟨rfl, rfl, trivial⟩ (by first | rfl | exact bool_to_t (by first | exact .inl (by omega) | exact .inr (.inl (by omega)) | exact ⟨fun h => .inr (.inr h), fun h => by rcases h with h | h | h <;> first | omega | exact h⟩) | exact bool_to_f (by first | exact .inl (by omega) | exact .inr (.inl (by omega)) | exact ⟨fun h => .inr (.inr h), fun h => by rcases h with h | h | h <;> first | omega | exact h⟩) | exact bool_to (by first | exact .inl (by omega) | exact .inr (.inl (by omega)) | exact ⟨fun h => .inr (.inr h), fun h => by rcases h with h | h | h <;> first | omega | exact h⟩) | exact bool_to_b (by first | exact .inl (by omega) | exact .inr (.inl (by omega)) | exact ⟨fun h => .inr (.inr h), fun h => by rcases h with h | h | h <;> first | omega | exact h⟩))
      · skip
        refine vl_guard_f rfl rfl rfl rfl ?_
        refine vl_guard_f rfl rfl rfl rfl ?_
        refine vl_guard_f rfl rfl rfl rfl ?_
        refine vl_det (det_pick_t rfl rfl) rfl ?_
        exact vl_cut_end ⟨rfl, rfl, trivial⟩ (by first | rfl | exact bool_to_t (by first | exact .inl (by omega) | exact .inr (.inl (by omega)) | exact ⟨fun h => .inr (.inr h), fun h => by rcases h with h | h | h <;> first | omega | exact h⟩) | exact bool_to_f (by first | exact .inl (by omega) | exact .inr (.inl (by omega)) | exact ⟨fun h => .inr (.inr h), fun h => by rcases h with h | h | h <;> first | omega | exact h⟩) | exact bool_to (by first | exact .inl (by omega) | exact .inr (.inl (by omega)) | exact ⟨fun h => .inr (.inr h), fun h => by rcases h with h | h | h <;> first | omega | exact h⟩) | exact bool_to_b (by first | exact .inl (by omega) | exact .inr (.inl (by omega)) | exact ⟨fun h => .inr (.inr h), fun h => by rcases h with h | h | h <;> first | omega | exact h⟩))
    · skip
      refine vl_guard_f rfl rfl rfl rfl ?_
      refine vl_det (det_pick_t rfl rfl) rfl ?_
      refine vl_det (det_move rfl) rfl ?_
      refine vl_guard_f rfl rfl rfl rfl ?_
      refine vl_guard_f rfl rfl rfl rfl ?_
      refine vl_guard_f rfl rfl rfl rfl ?_
      refine vl_guard_f rfl rfl rfl rfl ?_
      refine vl_det (det_pick_t rfl rfl) rfl ?_
      exact vl_cut_end ⟨rfl, rfl, trivial⟩ (by first | rfl | exact bool_to_t (by first | exact .inl (by omega) | exact .inr (.inl (by omega)) | exact ⟨fun h => .inr (.inr h), fun h => by rcases h with h | h | h <;> first | omega | exact h⟩) | exact bool_to_f (by first | exact .inl (by omega) | exact .inr (.inl (by omega)) | exact ⟨fun h => .inr (.inr h), fun h => by rcases h with h | h | h <;> first | omega | exact h⟩) | exact bool_to (by first | exact .inl (by omega) | exact .inr (.inl (by omega)) | exact ⟨fun h => .inr (.inr h), fun h => by rcases h with h | h | h <;> first | omega | exact h⟩) | exact bool_to_b (by first | exact .inl (by omega) | exact .inr (.inl (by omega)) | exact ⟨fun h => .inr (.inr h), fun h => by rcases h with h | h | h <;> first | omega | exact h⟩))
  · skip
    refine vl_end [(0, _), (1, _), (24, _)] ⟨rfl, rfl, rfl, trivial⟩ ?_
    refine then_next ?_
    refine vc_decideU rfl (fun h24 => ?_) (fun h24 => ?_)
    · skip
      refine vc_seq ?_
      refine vc_region ?_
      refine vl_det (det_assign rfl) rfl ?_
      refine vl_det (det_assign rfl) rfl ?_
      refine vl_end [(4, _), (5, _)] ⟨rfl, rfl, trivial⟩ ?_
      refine then_next ?_
      refine vc_ret ?_
      refine then_ret ?_
      refine ret_nil_row 5 1 none ?_
      refine ret2 rfl rfl rfl ?_
      exact ⟨none, 0, rfl, rfl⟩
    · skip
      exfalso; exact h24 hE
theorem modP {x p : Nat} : (x : Int).tmod (p : Int) = ((x % p : Nat) : Int) := (Int.ofNat_tmod x p).symm
theorem divP {x p : Nat} (hx : x ≤ 1000000) : IntKind.i64.wrap ((x : Int).tdiv (p : Int)) = ((x / p : Nat) : Int) := by
  have e : (x : Int).tdiv (p : Int) = ((x / p : Nat) : Int) := (Int.ofNat_tdiv x p).symm
  have h := Nat.div_le_self x p
  rw [e]
  generalize x / p = y at h
  exact w_i64 (by omega) (by omega)
theorem rwrite_ok {b : Nat} {xs : List Nat} (hb : Bor B w0 F 1 (.slice A xs.length c) xs.length (natv xs)) (hb2 : b ≤ 20000) (hR : RisN b xs) :
    Does Try.prog B w0 42 [.int .i64 b, .slice A xs.length c] F (fun r L => ∃ A' c', r = .tuple #[.slice A' (efB b xs).length c', .int .i64 0] ∧ L = .own 5 1 A' (efB b xs).length c' (bv (efB b xs)) :: F) := by
  have hlen := hR.len
  have hi : Ris b (xs.map (fun (n : Nat) => (n : Int))) := (ris_iff b xs).2 hR
  have hr := may_d (B := B) (w0 := w0) (F := F) (A := A) (c := c) (b : Int) (xs.map (fun (n : Nat) => (n : Int))) (by rw [ints_nat, List.length_map]; exact hb) (by rw [List.length_map]; omega)
  rw [List.length_map] at hr
  have hwl := wid_le (n := xs.length) hb2
  obtain ⟨w, hw⟩ : ∃ w, w = wid b xs.length := ⟨_, rfl⟩
  have hw' : Nat.log2 (b / xs.length) = w := hw.symm
  rw [← hw] at hwl
  obtain ⟨p, hp⟩ : ∃ p, p = 2 ^ w := ⟨_, rfl⟩
  have hp0 : 1 ≤ p := by rw [hp]; exact Nat.one_le_two_pow
  have hpb : p ≤ 16384 := by rw [hp]; exact pow_le14 hwl
  have hel := encL_len (n := xs.length) (by omega)
  have heB0 : xs.length = 0 → efB b xs = encN xs.length := fun h => by unfold efB; rw [if_pos h]; simp
  have heB1 : ¬ xs.length = 0 → efB b xs = encN xs.length ++ packed (loS p w xs ++ unS p 0 xs) := fun h => by unfold efB efQ; rw [if_neg h, ← hw, ← hp]
  have hql := efQ_len (p := p) (w := w) hR hb2 hwl
  unfold efQ at hql
  have hpl := packed_length (loS p w xs ++ unS p 0 xs)
  have hq20 : b / xs.length ≤ 20000 := Nat.le_trans (Nat.div_le_self _ _) hb2
  refine fn_walk Try.func42 81 rfl rfl rfl [(0, .int .i64 b), (1, .slice A xs.length c)] ⟨⟨rfl, rfl⟩, ⟨rfl, rfl⟩, trivial⟩ ?_
  refine vc_seq ?_
  refine vc_region ?_
  refine vl_det (det_assign rfl) rfl ?_
  refine vl_det (det_assign rfl) rfl ?_
  refine vl_end [(0, _), (1, _)] ⟨rfl, rfl, trivial⟩ ?_
  refine then_next ?_
  refine vc_seq ?_
  refine vc_seq ?_
  refine vc_region ?_
  refine vl_det (det_move rfl) rfl ?_
  refine vl_det (det_lss rfl rfl) rfl ?_
  refine vl_det (det_move rfl) rfl ?_
  refine vl_guardn rfl rfl rfl (fun h15 => ?_) (fun h15 => ?_)
  · skip
    refine vl_det (det_move rfl) rfl ?_
    refine vl_guard_t rfl rfl ?_
    refine vl_det (det_gtr rfl rfl) rfl ?_
    refine vl_det (det_pick_f rfl rfl) rfl ?_
    refine vl_det (det_move rfl) rfl ?_
    refine vl_guardn rfl rfl rfl (fun h19 => ?_) (fun h19 => ?_)
    · skip
      refine vl_det (det_move rfl) rfl ?_
      refine vl_guard_t rfl rfl ?_
      refine vl_det (det_move rfl) rfl ?_
      refine vl_guard_t rfl rfl ?_
      refine vl_call co44 rfl (hr) rfl ?_
      rintro _ _ ⟨rfl, hLL⟩
      obtain rfl := hLL.symm
      refine vl_guard_t rfl rfl ?_
      refine vl_det (det_notd rfl) rfl ?_
      refine vl_det (det_pick_f rfl rfl) rfl ?_
      refine vl_end [(0, _), (1, _), (24, _)] ⟨rfl, rfl, rfl, trivial⟩ ?_
      refine then_next ?_
      refine vc_decideU rfl (fun h24 => ?_) (fun h24 => ?_)
      · skip
        exfalso; exact h24 hi
      · skip
        refine vc_skip ?_
        refine then_next ?_
        refine vc_seq ?_
        refine vc_region ?_
        refine vl_det (det_move rfl) rfl ?_
        refine vl_det (det_len_sl Try.underlying37 rfl) rfl ?_
        refine vl_det (det_conv Try.underlying3 Try.underlying33 rfl (w_u64 (by omega) (by omega))) rfl ?_
        refine vl_call co72 rfl (rnum_d xs.length (by omega)) rfl ?_
        rintro _ _ ⟨A28, c28, rfl, hLL⟩
        obtain rfl := hLL.symm
        refine vl_det (det_assign rfl) rfl ?_
        refine vl_end [(0, _), (1, _), (6, _)] ⟨rfl, rfl, rfl, trivial⟩ ?_
        refine then_next ?_
        refine vc_seq ?_
        refine vc_seq ?_
        refine vc_region ?_
        refine vl_det (det_move rfl) rfl ?_
        refine vl_det (det_len_sl Try.underlying37 rfl) rfl ?_
        refine vl_det (det_eql rfl rfl) rfl ?_
        refine vl_end [(0, _), (1, _), (6, _), (31, _)] ⟨rfl, rfl, rfl, rfl, trivial⟩ ?_
        refine then_next ?_
        refine vc_decideU rfl (fun h31 => ?_) (fun h31 => ?_)
        · skip
          refine vc_seq ?_
          refine vc_region ?_
          refine vl_det (det_move rfl) rfl ?_
          refine vl_det (det_assign rfl) rfl ?_
          refine vl_det (det_assign rfl) rfl ?_
          refine vl_end [(4, _), (5, _)] ⟨rfl, rfl, trivial⟩ ?_
          refine then_next ?_
          refine vc_ret ?_
          refine then_ret ?_
          rw [heB0 (by omega)]
          refine ret2 rfl rfl rfl ?_
          exact ⟨A28, c28, rfl, rfl⟩
        · skip
          have hq1 : 1 ≤ b / xs.length := (Nat.le_div_iff_mul_le (by omega)).2 (by omega)
          refine vc_skip ?_
          refine then_next ?_
          refine vc_seq ?_
          refine vc_region ?_
          refine vl_det (det_move rfl) rfl ?_
          refine vl_det (det_move rfl) rfl ?_
          refine vl_det (det_len_sl Try.underlying37 rfl) rfl ?_
          refine vl_det (det_quo rfl rfl (by omega) (divP (by omega))) rfl ?_
          refine vl_call co75 rfl (rwidth_d (b / xs.length) hq1 hq20) rfl ?_
          rintro _ _ ⟨rfl, hLL⟩
          obtain rfl := hLL.symm
          rw [hw', ← hp]
          refine vl_det (det_move rfl) rfl ?_
          refine vl_det (det_extract rfl rfl) rfl ?_
          refine vl_det (det_extract rfl rfl) rfl ?_
          refine vl_det (det_assign rfl) rfl ?_
          refine vl_det (det_assign rfl) rfl ?_
          refine vl_end [(1, _), (6, _), (7, _), (8, _)] ⟨rfl, rfl, rfl, rfl, trivial⟩ ?_
          refine then_next ?_
          refine vc_seq ?_
          refine vc_region ?_
          refine vl_det (det_build0 [.slice none 0 0] (by kernel_rfl)) rfl ?_
          refine vl_eff (eff_alloc_z (zv := (.agg #[.slice none 0 0])) (by kernel_rfl) rfl) rfl ?_
          rintro _ _ ⟨g9, rfl, rfl⟩
          refine vl_eff0 (eff_store_whole 1 (by kernel_rfl) rfl rfl (by first | exact bv_one _ | exact strs_one _ | exact ints_one _ _ | (simp; done) | (simp [Value.oneCell']; done) | assumption) (by repeat (first | exact .hd | apply Sel.tl)) (by first | rfl | (simp; omega) | (simp [*]; done)) (by first | rfl | (simp; omega) | (simp [*]; done))) ?_
          rintro _ _ rfl
          refine vl_end [(1, _), (6, _), (7, _), (8, _), (9, _)] ⟨rfl, rfl, rfl, rfl, rfl, trivial⟩ ?_
          refine then_next ?_
          refine vc_seq ?_
          refine vc_seq ?_
          refine vc_nil_row 5 1 none ?_
          refine vc_region ?_
          refine vl_det (det_assign rfl) rfl ?_
          refine vl_end [(1, _), (6, _), (7, _), (8, _), (9, _), (10, _)] ⟨rfl, rfl, rfl, rfl, rfl, rfl, trivial⟩ ?_
          refine then_next ?_
          refine vc_block ?_
          refine vc_loopJ (fun zf zL zm => ∃ (k : Nat) (A8 : Option Addr) (c8 : Nat), (k ≤ xs.length) ∧ xs.length - k = zm ∧ Sub zf [(1, .slice A xs.length c), (6, .slice A28 (encN xs.length).length c28), (7, .int .i64 w), (8, .int .i64 p), (9, .pointer (some ⟨g9, 0, none⟩)), (10, .int .i64 k)] ∧ Wk zL (Wf g9 117 A8 c8 (loS p w (xs.take k)) (.own 5 1 A28 (encN xs.length).length c28 (bv (encN xs.length)) :: F))) _ ⟨0, none, 0, Nat.zero_le _, rfl, ⟨(by first | rfl | exact int_to (by omega) | exact sl_to (by omega)), (by first | rfl | exact int_to (by omega) | exact sl_to (by omega)), (by first | rfl | exact int_to (by omega) | exact sl_to (by omega)), (by first | rfl | exact int_to (by omega) | exact sl_to (by omega)), (by first | rfl | exact int_to (by omega) | exact sl_to (by omega)), (by first | rfl | exact int_to (by omega) | exact sl_to (by omega)), trivial⟩, by rw [show loS p w (xs.take 0) = [] from rfl]; exact .of_perm swp⟩ ?_
          rintro _ _ _ ⟨k, A8, c8, hk, rfl, hs, hp⟩
          refine vc_weaken _ hs (vc_wk hp ?_)
          clear hs hp
          refine vc_seq ?_
          refine vc_seq ?_
          refine vc_region ?_
          refine vl_det (det_move rfl) rfl ?_
          refine vl_det (det_move rfl) rfl ?_
          refine vl_det (det_len_sl Try.underlying37 rfl) rfl ?_
          refine vl_det (det_lss rfl rfl) rfl ?_
          refine vl_end [(1, _), (6, _), (7, _), (8, _), (9, _), (10, _), (45, _)] ⟨rfl, rfl, rfl, rfl, rfl, rfl, rfl, trivial⟩ ?_
          refine then_next ?_
          refine vc_decideU rfl (fun h45 => ?_) (fun h45 => ?_)
          · skip
            have hxk := (hR k (by omega)).1
            have hmod : xs.getD k 0 % p < p := Nat.mod_lt _ hp0
            have hll := loS_length p w (xs.take k)
            have hlm : (xs.take k).length * w ≤ 20000 * 14 := Nat.mul_le_mul (by rw [List.length_take]; omega) hwl
            refine vc_skip ?_
            refine then_next ?_
            refine vc_seq ?_
            refine vc_block ?_
            refine vc_region ?_
            refine vl_det (det_move rfl) rfl ?_
            refine vl_det (det_move rfl) rfl ?_
            refine vl_det (det_indexAddr (size := 1) Try.underlying37 (by kernel_rfl) rfl rfl rfl (by omega) (by first | (exact Bor.own (by repeat (first | exact List.Mem.head _ | apply List.Mem.tail))) | (repeat (first | assumption | apply Bor.cons)))) rfl ?_
            refine vl_det (det_load_row (by kernel_rfl) rfl (by first | (exact Bor.own (by repeat (first | exact List.Mem.head _ | apply List.Mem.tail))) | (repeat (first | assumption | apply Bor.cons))) (by omega) (natv_get (by omega))) rfl ?_
            refine vl_det (det_move rfl) rfl ?_
            refine vl_det (det_rem rfl rfl (by omega) modP) rfl ?_
            refine vl_det (det_conv Try.underlying3 Try.underlying33 rfl (w_u64 (by omega) (by omega))) rfl ?_
            refine vl_det (det_move rfl) rfl ?_
            refine vl_call co76 rfl (rput_d (loS p w (xs.take k)) (xs.getD k 0 % p) (by omega) w (by omega) (by rw [← hp]; exact hmod) (by omega)) rfl ?_
            rintro _ _ ⟨rfl, A56, c56, hLL⟩
            obtain rfl := hLL.symm
            refine vl_end [(1, _), (6, _), (7, _), (8, _), (9, _), (10, _)] ⟨rfl, rfl, rfl, rfl, rfl, rfl, trivial⟩ ?_
            refine in_normal ?_
            refine then_next ?_
            refine vc_region ?_
            refine vl_det (det_move rfl) rfl ?_
            refine vl_det (det_add rfl rfl (w_i64 (by omega) (by omega))) rfl ?_
            refine vl_det (det_assign rfl) rfl ?_
            refine vl_end [(1, _), (6, _), (7, _), (8, _), (9, _), (10, _)] ⟨rfl, rfl, rfl, rfl, rfl, rfl, trivial⟩ ?_
            refine in_loop_ ⟨_, by omega, k + 1, A56, c56, by omega, rfl, ⟨(by first | rfl | exact int_to (by omega) | exact sl_to (by omega)), (by first | rfl | exact int_to (by omega) | exact sl_to (by omega)), (by first | rfl | exact int_to (by omega) | exact sl_to (by omega)), (by first | rfl | exact int_to (by omega) | exact sl_to (by omega)), (by first | rfl | exact int_to (by omega) | exact sl_to (by omega)), (by first | rfl | exact int_to (by omega) | exact sl_to (by omega)), trivial⟩, by rw [take_getD (show k < xs.length by omega) 0, loS_snoc]; exact .refl _⟩
          · skip
            obtain rfl : k = xs.length := by omega
            rw [List.take_length]
            refine vc_exit ?_
            refine then_exit ?_
            refine loop_exit ?_
            refine in_eq ?_
            refine then_next ?_
            refine vc_seq ?_
            refine vc_region ?_
            refine vl_det (det_assign rfl) rfl ?_
            refine vl_end [(1, _), (6, _), (8, _), (9, _), (11, _)] ⟨rfl, rfl, rfl, rfl, rfl, trivial⟩ ?_
            refine then_next ?_
            refine vc_seq ?_
            refine vc_seq ?_
            refine vc_region ?_
            refine vl_det (det_assign rfl) rfl ?_
            refine vl_end [(1, _), (6, _), (8, _), (9, _), (11, _), (12, _)] ⟨rfl, rfl, rfl, rfl, rfl, rfl, trivial⟩ ?_
            refine then_next ?_
            refine vc_block ?_
            refine vc_loopJ (fun zf zL zm => ∃ (k : Nat) (A9 : Option Addr) (c9 : Nat), (k ≤ xs.length) ∧ xs.length - k = zm ∧ Sub zf [(1, .slice A xs.length c), (6, .slice A28 (encN xs.length).length c28), (8, .int .i64 p), (9, .pointer (some ⟨g9, 0, none⟩)), (11, .int .i64 (lastP p 0 (xs.take k))), (12, .int .i64 k)] ∧ Wk zL (Wf g9 117 A9 c9 (loS p w xs ++ unS p 0 (xs.take k)) (.own 5 1 A28 (encN xs.length).length c28 (bv (encN xs.length)) :: F))) _ ⟨0, A8, c8, Nat.zero_le _, rfl, ⟨(by first | rfl | exact int_to (by omega) | exact sl_to (by omega)), (by first | rfl | exact int_to (by omega) | exact sl_to (by omega)), (by first | rfl | exact int_to (by omega) | exact sl_to (by omega)), (by first | rfl | exact int_to (by omega) | exact sl_to (by omega)), (by first | rfl | exact int_to (by omega) | exact sl_to (by omega)), (by first | rfl | exact int_to (by omega) | exact sl_to (by omega)), trivial⟩, by rw [List.take_zero]; simp only [unS, List.append_nil]; exact .refl _⟩ ?_
            rintro _ _ _ ⟨k, A9, c9, hk3, rfl, hs, hp⟩
            refine vc_weaken _ hs (vc_wk hp ?_)
            clear hs hp
            refine vc_seq ?_
            refine vc_seq ?_
            refine vc_region ?_
            refine vl_det (det_move rfl) rfl ?_
            refine vl_det (det_move rfl) rfl ?_
            refine vl_det (det_len_sl Try.underlying37 rfl) rfl ?_
            refine vl_det (det_lss rfl rfl) rfl ?_
            refine vl_end [(1, _), (6, _), (8, _), (9, _), (11, _), (12, _), (60, _)] ⟨rfl, rfl, rfl, rfl, rfl, rfl, rfl, trivial⟩ ?_
            refine then_next ?_
            refine vc_decideU rfl (fun h60 => ?_) (fun h60 => ?_)
            · skip
              have hxk := (hR k (by omega)).1
              have hdv := Nat.div_le_self (xs.getD k 0) p
              have hlp := lastP_le (p := p) hR (k := k) (by omega)
              have hul := unS_length (p := p) hR k (by omega)
              have hlb := lastP_bd (p := p) hR k (by omega)
              have hll := loS_length p w xs
              have hlm : xs.length * w ≤ 20000 * 14 := Nat.mul_le_mul (by omega) hwl
              have hlt := lastP_take (p := p) (xs := xs) (k := k) (by omega)
              refine vc_skip ?_
              refine then_next ?_
              refine vc_seq ?_
              refine vc_block ?_
              refine vc_seq ?_
              refine vc_region ?_
              refine vl_det (det_move rfl) rfl ?_
              refine vl_det (det_move rfl) rfl ?_
              refine vl_det (det_indexAddr (size := 1) Try.underlying37 (by kernel_rfl) rfl rfl rfl (by omega) (by first | (exact Bor.own (by repeat (first | exact List.Mem.head _ | apply List.Mem.tail))) | (repeat (first | assumption | apply Bor.cons)))) rfl ?_
              refine vl_det (det_load_row (by kernel_rfl) rfl (by first | (exact Bor.own (by repeat (first | exact List.Mem.head _ | apply List.Mem.tail))) | (repeat (first | assumption | apply Bor.cons))) (by omega) (natv_get (by omega))) rfl ?_
              refine vl_det (det_move rfl) rfl ?_
              refine vl_det (det_quo rfl rfl (by omega) (divP (by omega))) rfl ?_
              refine vl_det (det_move rfl) rfl ?_
              refine vl_det (det_sub rfl rfl (r := ((xs.getD k 0 / p - lastP p 0 (xs.take k) : Nat) : Int)) ((w_i64 (by omega) (by omega)).trans (by omega))) rfl ?_
              refine vl_call co77 rfl (runary_d (loS p w xs ++ unS p 0 (xs.take k)) (xs.getD k 0 / p - lastP p 0 (xs.take k)) (by omega) (by rw [List.length_append]; omega)) rfl ?_
              rintro _ _ ⟨rfl, A71, c71, hLL⟩
              obtain rfl := hLL.symm
              refine vl_end [(1, _), (6, _), (8, _), (9, _), (12, _)] ⟨rfl, rfl, rfl, rfl, rfl, trivial⟩ ?_
              refine then_next ?_
              refine vc_region ?_
              refine vl_det (det_move rfl) rfl ?_
              refine vl_det (det_move rfl) rfl ?_
              refine vl_det (det_indexAddr (size := 1) Try.underlying37 (by kernel_rfl) rfl rfl rfl (by omega) (by first | (exact Bor.own (by repeat (first | exact List.Mem.head _ | apply List.Mem.tail))) | (repeat (first | assumption | apply Bor.cons)))) rfl ?_
              refine vl_det (det_load_row (by kernel_rfl) rfl (by first | (exact Bor.own (by repeat (first | exact List.Mem.head _ | apply List.Mem.tail))) | (repeat (first | assumption | apply Bor.cons))) (by omega) (natv_get (by omega))) rfl ?_
              refine vl_det (det_move rfl) rfl ?_
              refine vl_det (det_quo rfl rfl (by omega) (divP (by omega))) rfl ?_
              refine vl_det (det_assign rfl) rfl ?_
              refine vl_end [(1, _), (6, _), (8, _), (9, _), (11, _), (12, _)] ⟨rfl, rfl, rfl, rfl, rfl, rfl, trivial⟩ ?_
              refine in_normal ?_
              refine then_next ?_
              refine vc_region ?_
              refine vl_det (det_move rfl) rfl ?_
              refine vl_det (det_add rfl rfl (w_i64 (by omega) (by omega))) rfl ?_
              refine vl_det (det_assign rfl) rfl ?_
              refine vl_end [(1, _), (6, _), (8, _), (9, _), (11, _), (12, _)] ⟨rfl, rfl, rfl, rfl, rfl, rfl, trivial⟩ ?_
              refine in_loop_ ⟨_, by omega, k + 1, A71, c71, by omega, rfl, ⟨(by first | rfl | exact int_to (by omega) | exact sl_to (by omega)), (by first | rfl | exact int_to (by omega) | exact sl_to (by omega)), (by first | rfl | exact int_to (by omega) | exact sl_to (by omega)), (by first | rfl | exact int_to (by omega) | exact sl_to (by omega)), (by first | rfl | exact int_to (by omega) | exact sl_to (by omega)), (by first | rfl | exact int_to (by omega) | exact sl_to (by omega)), trivial⟩, by rw [take_getD (show k < xs.length by omega) 0, unS_snoc, ← List.append_assoc]; exact .refl _⟩
            · skip
              obtain rfl : k = xs.length := by omega
              rw [List.take_length]
              refine vc_exit ?_
              refine then_exit ?_
              refine loop_exit ?_
              refine in_eq ?_
              refine then_next ?_
              refine vc_seq ?_
              refine vc_region ?_
              refine vl_det (det_move rfl) rfl ?_
              refine vl_call co78 rfl (rbytes_d _ (by omega)) rfl ?_
              rintro _ _ ⟨A79, c79, rfl, hLL⟩
              obtain rfl := hLL.symm
              refine vl_eff (eff_app slT41 rfl (by repeat (first | exact .hd | apply Sel.tl)) rfl (by first | (exact Bor.own (by repeat (first | exact List.Mem.head _ | apply List.Mem.tail))) | (repeat (first | assumption | apply Bor.cons))) (by first | exact bv_one _ | exact strs_one _ | exact ints_one _ _ | (simp; done) | (simp [Value.oneCell']; done) | assumption) (by omega) (by omega)) rfl ?_
              rintro _ _ ⟨A80, c80, rfl, rfl⟩
              refine vl_det (det_assign rfl) rfl ?_
              refine vl_det (det_assign rfl) rfl ?_
              refine vl_end [(4, _), (5, _)] ⟨rfl, rfl, trivial⟩ ?_
              refine then_next ?_
              refine vc_ret ?_
              have el : (encN xs.length).length + (packed (loS p w xs ++ unS p 0 xs)).length = (efB b xs).length := by rw [heB1 (by omega), List.length_append]
              rw [el]
              refine ret_wk (L' := .own 5 1 A80 (efB b xs).length c80 (bv (efB b xs)) :: F) (.skip (.skip (.skip (wk_own rfl (by rw [heB1 (by omega), bv_append]) (.refl _))))) ?_
              refine ret2 rfl rfl rfl ?_
              exact ⟨A80, c80, rfl, rfl⟩
    · skip
      exfalso; omega
  · skip
    exfalso; omega
/-- both at once -/
theorem efwrite_d {bound : Int} {ids : List Int} (hb : Bor B w0 F 1 (.slice A ids.length c) ids.length (ints .i64 ids)) (hl : ids.length ≤ 9000000000000000000) :
    Does Try.prog B w0 39 [.int .i64 bound, .slice A ids.length c] F (fun r L => ∃ A' c', r = .tuple #[.slice A' (efW bound ids).1.length c', .int .i64 (efW bound ids).2] ∧ L = .own 5 1 A' (efW bound ids).1.length c' (bv (efW bound ids).1) :: F) := by
  by_cases hE : bound < 0 ∨ 20000 < bound ∨ ¬ Ris bound ids
  · rw [efW_bad hE]; exact efwrite_bad hb hl hE
  · have hR : Ris bound ids := Classical.byContradiction fun h => hE (.inr (.inr h))
    obtain ⟨xs, rfl⟩ := hR.nats
    obtain ⟨b, rfl⟩ := Int.eq_ofNat_of_zero_le (show 0 ≤ bound by omega)
    rw [efW_ok hE]
    rw [ints_nat, List.length_map] at hb
    rw [List.length_map]
    exact efwrite_ok hb (by omega) ((ris_iff b xs).1 hR)
theorem rwrite_d {bound : Int} {ids : List Int} (hb : Bor B w0 F 1 (.slice A ids.length c) ids.length (ints .i64 ids)) (hl : ids.length ≤ 9000000000000000000) :
    Does Try.prog B w0 42 [.int .i64 bound, .slice A ids.length c] F (fun r L => ∃ A' c', r = .tuple #[.slice A' (efW bound ids).1.length c', .int .i64 (efW bound ids).2] ∧ L = .own 5 1 A' (efW bound ids).1.length c' (bv (efW bound ids).1) :: F) := by
  by_cases hE : bound < 0 ∨ 20000 < bound ∨ ¬ Ris bound ids
  · rw [efW_bad hE]; exact rwrite_bad hb hl hE
  · have hR : Ris bound ids := Classical.byContradiction fun h => hE (.inr (.inr h))
    obtain ⟨xs, rfl⟩ := hR.nats
    obtain ⟨b, rfl⟩ := Int.eq_ofNat_of_zero_le (show 0 ≤ bound by omega)
    rw [efW_ok hE]
    rw [ints_nat, List.length_map] at hb
    rw [List.length_map]
    exact rwrite_ok hb (by omega) ((ris_iff b xs).1 hR)
theorem efX : efB 8 [2, 3, 5, 7] = [4, 118, 160] := by
  have e := encN_lt (x := 4) (by omega)
  have h : packed (efQ (2 ^ wid 8 4) (wid 8 4) [2, 3, 5, 7]) = [118, 160] := by decide +kernel
  unfold efB
  rw [if_neg (by simp)]
  simp only [List.length_cons, List.length_nil, e, Nat.zero_add, Nat.reduceAdd, h]
  rfl
end Go.Proofs.Ytpamjobiohbibaa
namespace Go.Proofs.Ytpamjobiohbibaa
set_option linter.unusedVariables false
set_option maxRecDepth 20000
/-- the bits of bytes -/
def unp (l : List UInt8) : List Bool := (List.range (8 * l.length)).map fun i => (l.getD (i / 8) 0).toNat.testBit (7 - i % 8)
theorem unp_length (l : List UInt8) : (unp l).length = 8 * l.length := by simp [unp]
theorem unp_bit (l : List UInt8) {i : Nat} (h : i < 8 * l.length) : bitn (unp l) i = (l.getD (i / 8) 0).toNat / 2 ^ (7 - i % 8) % 2 := by
  rw [bit_of, bitn, unp]
  congr 1
  simp [List.getD_eq_getElem?_getD, h]
theorem unp_part (l : List UInt8) {k : Nat} (h : k < l.length) : ∀ m, m ≤ 8 → part (unp l) (8 * k) m = (l.getD k 0).toNat / 2 ^ (8 - m)
  | 0, _ => by
    have := UInt8.toNat_lt (l.getD k 0)
    rw [part]
    exact (Nat.div_eq_of_lt (by omega)).symm
  | m + 1, hm => by
    rw [part, unp_part l h m (by omega), unp_bit l (by omega), show (8 * k + m) / 8 = k by omega, show 7 - (8 * k + m) % 8 = 7 - m by omega, show 8 - m = (7 - m) + 1 by omega, show 8 - (m + 1) = 7 - m by omega, Nat.pow_succ, ← Nat.div_div_eq_div_mul]
    omega
theorem unp_packed (l : List UInt8) : packed (unp l) = l := by
  apply List.ext_getElem
  · rw [packed_length, unp_length]; omega
  · intro k h1 h2
    have hk : k < l.length := h2
    have e : (packed (unp l)).getD k 0 = l.getD k 0 := by
      rw [packed, octets_get _ (by rw [unp_length]; omega), octet, unp_part l hk 8 (by omega)]
      simp
    rwa [List.getD_eq_getElem?_getD, List.getElem?_eq_getElem h1, List.getD_eq_getElem?_getD, List.getElem?_eq_getElem h2] at e
/-- the first bit 1 -/
def seek (q : List Bool) : Nat → Nat → Nat
  | i, 0 => i
  | i, f + 1 => if bitn q i = 1 then i else seek q (i + 1) f
def Z (q : List Bool) (p : Nat) : Nat := seek q p (q.length - p)
theorem z_hit {q : List Bool} {k : Nat} (h : bitn q k = 1) (hk : k < q.length) : Z q k = k := by
  rw [Z, show q.length - k = (q.length - (k + 1)) + 1 by omega, seek, if_pos h]
theorem z_step {q : List Bool} {k : Nat} (h : ¬ bitn q k = 1) (hk : k < q.length) : Z q k = Z q (k + 1) := by
  rw [Z, show q.length - k = (q.length - (k + 1)) + 1 by omega, seek, if_neg h]; rfl
theorem z_end {q : List Bool} {k : Nat} (hk : q.length ≤ k) : Z q k = k := by
  rw [Z, show q.length - k = 0 by omega]; rfl
theorem z_ge (q : List Bool) : ∀ f i, i ≤ seek q i f
  | 0, i => Nat.le_refl _
  | f + 1, i => by
    rw [seek]
    split
    · exact Nat.le_refl _
    · have := z_ge q f (i + 1); omega
theorem z_le (q : List Bool) : ∀ f i, seek q i f ≤ i + f
  | 0, i => Nat.le_refl _
  | f + 1, i => by
    rw [seek]
    split
    · omega
    · have := z_le q f (i + 1); omega
theorem zp_ge (q : List Bool) (p : Nat) : p ≤ Z q p := z_ge q _ p
theorem zp_le (q : List Bool) {p : Nat} (h : p ≤ q.length) : Z q p ≤ q.length := by have := z_le q (q.length - p) p; unfold Z; omega
/-- all bits are 0 just if the number is -/
theorem part_up (q : List Bool) : ∀ m i, part q i (m + 1) = bitn q i * 2 ^ m + part q (i + 1) m
  | 0, i => by simp [part]
  | m + 1, i => by
    rw [part, part_up q m i, part, show i + (m + 1) = i + 1 + m by omega, Nat.pow_succ]
    have : bitn q i * (2 ^ m * 2) = 2 * (bitn q i * 2 ^ m) := by rw [← Nat.mul_assoc, Nat.mul_comm]
    omega
theorem part_seek (q : List Bool) : ∀ f i, part q i f = 0 ↔ seek q i f = i + f
  | 0, i => by simp [part, seek]
  | f + 1, i => by
    rw [part_up, seek]
    have hb := bitn_le q i
    split
    · rename_i h
      rw [h]
      have := Nat.two_pow_pos f
      omega
    · rename_i h
      have h0 : bitn q i = 0 := by omega
      rw [h0, Nat.zero_mul, Nat.zero_add, part_seek q f (i + 1)]
      omega
theorem pad_iff (q : List Bool) {p : Nat} (h : p ≤ q.length) : part q p (q.length - p) = 0 ↔ Z q p = q.length := by
  rw [part_seek, Z, show p + (q.length - p) = q.length by omega]
/-- what a reader's calls answer -/
def skE (q : List Bool) (p : Nat) (n : Int) : Int := if n < 0 then 13 else if (q.length : Int) < p + n then 1 else 0
def skP (q : List Bool) (p : Nat) (n : Int) : Nat := if n < 0 then p else if (q.length : Int) < p + n then p else p + n.toNat
def gtE (q : List Bool) (p : Nat) (n : Int) : Int := if n < 0 ∨ 64 < n then 13 else if (q.length : Int) < p + n then 1 else 0
def gtV (q : List Bool) (p : Nat) (n : Int) : Nat := if n < 0 ∨ 64 < n then 0 else if (q.length : Int) < p + n then 0 else part q p n.toNat
def gtP (q : List Bool) (p : Nat) (n : Int) : Nat := if n < 0 ∨ 64 < n then p else if (q.length : Int) < p + n then p else p + n.toNat
def pkV (q : List Bool) (p : Nat) (n : Int) : Nat := if n < 0 ∨ 64 < n then 0 else part q p n.toNat
def pkN (q : List Bool) (p : Nat) (n : Int) : Int := if n < 0 ∨ 64 < n then 0 else min n (q.length - p)
def unV (q : List Bool) (p : Nat) : Int := if Z q p < q.length then Z q p - p else 0
def unR (q : List Bool) (p : Nat) : Int := if Z q p < q.length then 0 else 1
def unP (q : List Bool) (p : Nat) : Nat := if Z q p < q.length then Z q p + 1 else p
def paE (q : List Bool) (p : Nat) : Int := if (q.length : Int) - p < 8 ∧ Z q p = q.length then 0 else 2
theorem skP_le {q : List Bool} {p : Nat} (n : Int) (h : p ≤ q.length) : skP q p n ≤ q.length := by
  unfold skP; split; · exact h
  split <;> omega
theorem gtP_le {q : List Bool} {p : Nat} (n : Int) (h : p ≤ q.length) : gtP q p n ≤ q.length := by
  unfold gtP; split; · exact h
  split <;> omega
theorem unP_le {q : List Bool} {p : Nat} (h : p ≤ q.length) : unP q p ≤ q.length := by unfold unP; split <;> omega
end Go.Proofs.Ytpamjobiohbibaa
namespace Go.Proofs.Ytpamjobiohbibaa
open Go.RowKit
set_option linter.unusedVariables false
set_option maxRecDepth 20000
variable {B : Nat} {w0 : World} {F : List Ch} {A : Option Addr} {n c g : Nat} {bt : TypeId} {f : Ch → List Ch}
/-- a reader's memory -/
abbrev Rr (g : Nat) (A : Option Addr) (c : Nat) (q : List Bool) (p : Nat) (F : List Ch) : List Ch := .blk g 198 [.slice A (packed q).length c, .int .i64 q.length, .int .i64 p] :: .own 5 1 A (packed q).length c (bv (packed q)) :: F
theorem rr_at (a b : Value) {x y : Int} (h : x = y) : [a, b, Value.int .i64 x] = [a, b, Value.int .i64 y] := by rw [h]
theorem newr_d {l : List UInt8} (hb : Bor B w0 F 1 (.slice A l.length c) l.length (bv l)) (hl : l.length ≤ 1000000) :
    Does Try.prog B w0 139 [.slice A l.length c] F (fun r L => ∃ g A' c', r = .pointer (some ⟨g, 0, none⟩) ∧ L = Rr g A' c' (unp l) 0 F) := by
  have hul := unp_length l
  refine fn_walk Try.func139 11 rfl rfl rfl [(0, .slice A l.length c)] ⟨⟨rfl, rfl⟩, trivial⟩ ?_
  refine vc_seq ?_
  refine vc_region ?_
  refine vl_det (det_assign rfl) rfl ?_
  refine vl_end [(0, _)] ⟨rfl, trivial⟩ ?_
  refine then_next ?_
  refine vc_seq ?_
  refine vc_region ?_
  refine vl_det (det_move rfl) rfl ?_
  refine vl_call co115 rfl (clone_d l hb (by omega)) rfl ?_
  rintro _ _ ⟨A4, c4, rfl, hLL⟩
  obtain rfl := hLL.symm
  refine vl_det (det_move rfl) rfl ?_
  refine vl_det (det_len_sl Try.underlying41 rfl) rfl ?_
  refine vl_det (det_mul rfl rfl (w_i64 (by omega) (by omega))) rfl ?_
  refine vl_det (det_build [(0, _), (1, _)] [_, _] rfl rfl (by kernel_rfl)) rfl ?_
  refine vl_det (det_buildx [(0, _)] [.slice A4 l.length c4, .int .i64 (8 * (l.length : Int)), .int .i64 0] rfl (by kernel_rfl)) rfl ?_
  refine vl_eff (eff_box rfl rfl) rfl ?_
  rintro _ _ ⟨g10, rfl, rfl⟩
  refine vl_det (det_assign rfl) rfl ?_
  refine vl_end [(2, _)] ⟨rfl, trivial⟩ ?_
  refine then_next ?_
  refine vc_ret ?_
  refine ret_wk (L' := Rr g10 A4 c4 (unp l) 0 F) (wk_blk (by rw [unp_packed, hul]; simp) (wk_own (by rw [unp_packed]) (by rw [unp_packed]) (.refl _))) ?_
  refine ret1 rfl rfl ?_
  exact ⟨g10, A4, c4, rfl, rfl⟩
theorem left_d (q : List Bool) (p : Nat) (hp : p ≤ q.length) (hq : q.length ≤ 8000000) : Does Try.prog B w0 142 [.pointer (some ⟨g, 0, none⟩)] (Rr g A c q p F) (fun r L => r = .int .i64 ((q.length : Int) - p) ∧ L = Rr g A c q p F) := by
  refine fn_walk Try.func142 15 rfl rfl rfl [(0, .pointer (some ⟨g, 0, none⟩))] ⟨⟨rfl, rfl⟩, trivial⟩ ?_
  refine vc_seq ?_
  refine vc_region ?_
  refine vl_det (det_assign rfl) rfl ?_
  refine vl_end [(0, _)] ⟨rfl, trivial⟩ ?_
  refine then_next ?_
  refine vc_seq ?_
  refine vc_seq ?_
  refine vc_region ?_
  refine vl_det (det_move rfl) rfl ?_
  refine vl_det (det_ptr_nil Try.underlying189 rfl rfl) rfl ?_
  refine vl_end [(0, _), (4, _)] ⟨rfl, rfl, trivial⟩ ?_
  refine then_next ?_
  refine vc_cond_f rfl ?_
  refine vc_skip ?_
  refine then_next ?_
  refine vc_seq ?_
  refine vq_region (by kernel_rfl) (by kernel_rfl) ?_
  refine vq_det (det_move rfl) rfl ?_
  refine vq_det (det_nilCheck rfl) rfl ?_
  refine vq_det (det_fieldAddr_ Try.underlying198 rfl (by kernel_rfl) rfl rfl) rfl ?_
  refine vq_det (det_fieldAddr_ Try.underlying106 rfl (by kernel_rfl) rfl rfl) rfl ?_
  refine vq_det (det_load_blk (by kernel_rfl) rfl (by repeat (first | exact .hd | apply Sel.tl)) rfl) rfl ?_
  refine vq_det (det_move rfl) rfl ?_
  refine vq_det (det_nilCheck rfl) rfl ?_
  refine vq_det (det_fieldAddr_ Try.underlying198 rfl (by kernel_rfl) rfl rfl) rfl ?_
  refine vq_det (det_load_blk (by kernel_rfl) rfl (by repeat (first | exact .hd | apply Sel.tl)) rfl) rfl ?_
  refine vq_det (det_sub rfl rfl (w_i64 (by omega) (by omega))) rfl ?_
  refine vq_det (det_assign rfl) rfl ?_
  refine vq_end [(2, _)] ⟨rfl, trivial⟩ ?_
  refine then_next ?_
  refine vc_ret ?_
  refine ret1 rfl rfl ?_
  exact ⟨rfl, rfl⟩
theorem get_d (q : List Bool) (p : Nat) (hp : p ≤ q.length) (hq : q.length ≤ 8000000) (n : Int) (h1 : -9223372036854775808 ≤ n) (h2 : n ≤ 9223372036854775807) :
    Does Try.prog B w0 143 [.pointer (some ⟨g, 0, none⟩), .int .i64 n] (Rr g A c q p F) (fun r L => r = .tuple #[.int .u64 (gtV q p n), .int .i64 (gtE q p n)] ∧ L = Rr g A c q (gtP q p n) F) := by
  refine fn_walk Try.func143 41 rfl rfl rfl [(0, .pointer (some ⟨g, 0, none⟩)), (1, .int .i64 n)] ⟨⟨rfl, rfl⟩, ⟨rfl, rfl⟩, trivial⟩ ?_
  refine vc_seq ?_
  refine vc_region ?_
  refine vl_det (det_assign rfl) rfl ?_
  refine vl_det (det_assign rfl) rfl ?_
  refine vl_end [(0, _), (1, _)] ⟨rfl, rfl, trivial⟩ ?_
  refine then_next ?_
  refine vc_seq ?_
  refine vc_block ?_
  refine vc_seq ?_
  refine vc_region ?_
  refine vl_cut 6 13 [(0, _), (1, _)] (n < 0 ∨ 64 < n) ⟨rfl, rfl, trivial⟩ ?_ ?_
  · skip
    refine vl_det (det_move rfl) rfl ?_
    refine vl_det (det_lss rfl rfl) rfl ?_
    refine vl_det (det_move rfl) rfl ?_
    refine vl_guardn rfl rfl rfl (fun h10 => ?_) (fun h10 => ?_)
    · skip
      refine vl_det (det_move rfl) rfl ?_
      refine vl_guard_t rfl rfl ?_
      refine vl_det (det_gtr rfl rfl) rfl ?_
      refine vl_det (det_pick_f rfl rfl) rfl ?_
      exact vl_cut_end ⟨rfl, rfl, trivial⟩ (by first | rfl | exact bool_to_t (by first | omega | (exact ⟨fun h => by omega, fun h => by omega⟩)) | exact bool_to_f (by first | omega | (exact ⟨fun h => by omega, fun h => by omega⟩)) | exact bool_to (by first | omega | (exact ⟨fun h => by omega, fun h => by omega⟩)) | exact bool_to_b (by first | omega | (exact ⟨fun h => by omega, fun h => by omega⟩)))
    · skip
      refine vl_guard_f rfl rfl rfl rfl ?_
      refine vl_det (det_pick_t rfl rfl) rfl ?_
      exact vl_cut_end ⟨rfl, rfl, trivial⟩ (by first | rfl | exact bool_to_t (by first | omega | (exact ⟨fun h => by omega, fun h => by omega⟩)) | exact bool_to_f (by first | omega | (exact ⟨fun h => by omega, fun h => by omega⟩)) | exact bool_to (by first | omega | (exact ⟨fun h => by omega, fun h => by omega⟩)) | exact bool_to_b (by first | omega | (exact ⟨fun h => by omega, fun h => by omega⟩)))
  · skip
    refine vl_det (det_assign rfl) rfl ?_
    refine vl_end [(0, _), (1, _), (7, _)] ⟨rfl, rfl, rfl, trivial⟩ ?_
    refine then_next ?_
    refine vc_decideU rfl (fun h7 => ?_) (fun h7 => ?_)
    · skip
      refine vc_seq ?_
      refine vc_region ?_
      refine vl_det (det_assign rfl) rfl ?_
      refine vl_det (det_assign rfl) rfl ?_
      refine vl_end [(4, _), (5, _)] ⟨rfl, rfl, trivial⟩ ?_
      refine then_next ?_
      refine vc_ret ?_
      refine in_ret ?_
      refine then_ret ?_
      refine ret2 rfl rfl rfl ?_
      simp only [gtV, gtE, gtP, if_pos h7]; exact ⟨by first | rfl | trivial, by first | rfl | trivial⟩
    · skip
      refine vc_seq ?_
      refine vc_region ?_
      refine vl_cut 8 22 [(0, _), (1, _)] ((q.length : Int) < p + n) ⟨rfl, rfl, trivial⟩ ?_ ?_
      · skip
        refine vl_det (det_move rfl) rfl ?_
        refine vl_det (det_ptr_nil Try.underlying189 rfl rfl) rfl ?_
        refine vl_det (det_move rfl) rfl ?_
        refine vl_guard_t rfl rfl ?_
        refine vl_det (det_move rfl) rfl ?_
        refine vl_guard_t rfl rfl ?_
        refine vl_det (det_move rfl) rfl ?_
        refine vl_guard_t rfl rfl ?_
        refine vl_call co142 rfl (left_d q p hp hq) rfl ?_
        rintro _ _ ⟨rfl, hLL⟩
        obtain rfl := hLL.symm
        refine vl_guard_t rfl rfl ?_
        refine vl_det (det_gtr rfl rfl) rfl ?_
        refine vl_det (det_pick_f rfl rfl) rfl ?_
        exact vl_cut_end ⟨rfl, rfl, trivial⟩ (by first | rfl | exact bool_to_t (by first | omega | (exact ⟨fun h => by omega, fun h => by omega⟩) | (simp at h17; done)) | exact bool_to_f (by first | omega | (exact ⟨fun h => by omega, fun h => by omega⟩) | (simp at h17; done)) | exact bool_to (by first | omega | (exact ⟨fun h => by omega, fun h => by omega⟩) | (simp at h17; done)) | exact bool_to_b (by first | omega | (exact ⟨fun h => by omega, fun h => by omega⟩) | (simp at h17; done)))
      · skip
        refine vl_det (det_assign rfl) rfl ?_
        refine vl_end [(0, _), (1, _), (14, _)] ⟨rfl, rfl, rfl, trivial⟩ ?_
        refine then_next ?_
        refine vc_decideU rfl (fun h14 => ?_) (fun h14 => ?_)
        · skip
          refine vc_seq ?_
          refine vc_region ?_
          refine vl_det (det_assign rfl) rfl ?_
          refine vl_det (det_assign rfl) rfl ?_
          refine vl_end [(4, _), (5, _)] ⟨rfl, rfl, trivial⟩ ?_
          refine then_next ?_
          refine vc_ret ?_
          refine in_ret ?_
          refine then_ret ?_
          refine ret2 rfl rfl rfl ?_
          simp only [gtV, gtE, gtP, if_neg h7, if_pos h14]; exact ⟨by first | rfl | trivial, by first | rfl | trivial⟩
        · skip
          obtain ⟨m, rfl⟩ := Int.eq_ofNat_of_zero_le (show 0 ≤ n by omega)
          refine vc_skip ?_
          refine in_normal ?_
          refine then_next ?_
          refine vc_seq ?_
          refine vq_region (by kernel_rfl) (by kernel_rfl) ?_
          refine vq_det (det_move rfl) rfl ?_
          refine vq_det (det_nilCheck rfl) rfl ?_
          refine vq_det (det_fieldAddr_ Try.underlying198 rfl (by kernel_rfl) rfl rfl) rfl ?_
          refine vq_det (det_move rfl) rfl ?_
          refine vq_det (det_nilCheck rfl) rfl ?_
          refine vq_det (det_fieldAddr_ Try.underlying198 rfl (by kernel_rfl) rfl rfl) rfl ?_
          refine vq_det (det_load_blk (by kernel_rfl) rfl (by repeat (first | exact .hd | apply Sel.tl)) rfl) rfl ?_
          refine vq_det (det_move rfl) rfl ?_
          refine vq_call co148 rfl (number_d q p m hp (by omega) (by omega) _ (packed q) rfl rfl (by repeat (first | exact .hd | apply Sel.tl)) (by first | (exact Bor.own (by repeat (first | exact List.Mem.head _ | apply List.Mem.tail))) | (repeat (first | assumption | apply Bor.cons)))) (by rintro _ _ ⟨rfl, rfl⟩; exact ⟨rfl, List.Sublist.refl _⟩) rfl ?_
          refine vq_det (det_assign rfl) rfl ?_
          refine vq_end [(0, _), (1, _), (6, _)] ⟨rfl, rfl, rfl, trivial⟩ ?_
          refine then_next ?_
          refine vc_seq ?_
          refine vc_region ?_
          refine vl_det (det_move rfl) rfl ?_
          refine vl_det (det_nilCheck rfl) rfl ?_
          refine vl_det (det_fieldAddr_ Try.underlying198 rfl (by kernel_rfl) rfl rfl) rfl ?_
          refine vl_det (det_load_blk (by kernel_rfl) rfl (by repeat (first | exact .hd | apply Sel.tl)) rfl) rfl ?_
          refine vl_det (det_move rfl) rfl ?_
          refine vl_det (det_add rfl rfl (w_i64 (by omega) (by omega))) rfl ?_
          refine vl_det (det_nilCheck rfl) rfl ?_
          refine vl_det (det_fieldAddr_ Try.underlying198 rfl (by kernel_rfl) rfl rfl) rfl ?_
          refine vl_eff0 (eff_store (by kernel_rfl) rfl rfl rfl (by repeat (first | exact .hd | apply Sel.tl)) (by simp)) ?_
          rintro _ _ rfl
          refine vl_end [(6, _)] ⟨rfl, trivial⟩ ?_
          refine then_next ?_
          refine vc_seq ?_
          refine vc_region ?_
          refine vl_det (det_move rfl) rfl ?_
          refine vl_det (det_assign rfl) rfl ?_
          refine vl_det (det_assign rfl) rfl ?_
          refine vl_end [(4, _), (5, _)] ⟨rfl, rfl, trivial⟩ ?_
          refine then_next ?_
          refine vc_ret ?_
          refine ret_wk (L' := Rr g A c q (gtP q p m) F) (wk_blk (by simp only [gtP, if_neg h7, if_neg h14]; refine rr_at _ _ (?_ : _ = _); omega) (.refl _)) ?_
          refine ret2 rfl rfl rfl ?_
          simp only [gtV, gtE, if_neg h7, if_neg h14]; exact ⟨by first | rfl | trivial, by first | rfl | trivial⟩
theorem unaryr_d (q : List Bool) (p : Nat) (hp : p ≤ q.length) (hq : q.length ≤ 8000000) :
    Does Try.prog B w0 141 [.pointer (some ⟨g, 0, none⟩)] (Rr g A c q p F) (fun r L => r = .tuple #[.int .i64 (unV q p), .int .i64 (unR q p)] ∧ L = Rr g A c q (unP q p) F) := by
  refine fn_walk Try.func141 39 rfl rfl rfl [(0, .pointer (some ⟨g, 0, none⟩))] ⟨⟨rfl, rfl⟩, trivial⟩ ?_
  refine vc_seq ?_
  refine vc_region ?_
  refine vl_det (det_assign rfl) rfl ?_
  refine vl_det (det_assign rfl) rfl ?_
  refine vl_end [(0, _)] ⟨rfl, trivial⟩ ?_
  refine then_next ?_
  refine vc_seq ?_
  refine vc_seq ?_
  refine vc_region ?_
  refine vl_det (det_move rfl) rfl ?_
  refine vl_det (det_ptr_nil Try.underlying189 rfl rfl) rfl ?_
  refine vl_end [(0, _), (7, _)] ⟨rfl, rfl, trivial⟩ ?_
  refine then_next ?_
  refine vc_cond_f rfl ?_
  refine vc_skip ?_
  refine then_next ?_
  refine vc_seq ?_
  refine vc_seq ?_
  refine vc_region ?_
  refine vl_det (det_move rfl) rfl ?_
  refine vl_det (det_nilCheck rfl) rfl ?_
  refine vl_det (det_fieldAddr_ Try.underlying198 rfl (by kernel_rfl) rfl rfl) rfl ?_
  refine vl_det (det_load_blk (by kernel_rfl) rfl (by repeat (first | exact .hd | apply Sel.tl)) rfl) rfl ?_
  refine vl_det (det_assign rfl) rfl ?_
  refine vl_end [(0, _), (4, _)] ⟨rfl, rfl, trivial⟩ ?_
  refine then_next ?_
  refine vc_block ?_
  refine vc_loopJ (fun zf zL zm => ∃ (k : Nat), (k ≤ q.length ∧ Z q p = Z q k) ∧ q.length - k = zm ∧ Sub zf [(0, .pointer (some ⟨g, 0, none⟩)), (4, .int .i64 k)] ∧ Wk zL (Rr g A c q p F)) _ ⟨p, ⟨hp, rfl⟩, rfl, ⟨(by first | rfl | exact int_to (by omega) | exact sl_to (by omega)), (by first | rfl | exact int_to (by omega) | exact sl_to (by omega)), trivial⟩, .refl _⟩ ?_
  rintro _ _ _ ⟨k, ⟨hk, hz⟩, rfl, hs, hp⟩
  refine vc_weaken _ hs (vc_wk hp ?_)
  clear hs hp
  refine vc_seq ?_
  refine vc_seq ?_
  refine vc_region ?_
  refine vl_det (det_move rfl) rfl ?_
  refine vl_det (det_move rfl) rfl ?_
  refine vl_det (det_nilCheck rfl) rfl ?_
  refine vl_det (det_fieldAddr_ Try.underlying198 rfl (by kernel_rfl) rfl rfl) rfl ?_
  refine vl_det (det_fieldAddr_ Try.underlying106 rfl (by kernel_rfl) rfl rfl) rfl ?_
  refine vl_det (det_load_blk (by kernel_rfl) rfl (by repeat (first | exact .hd | apply Sel.tl)) rfl) rfl ?_
  refine vl_det (det_lss rfl rfl) rfl ?_
  refine vl_end [(0, _), (4, _), (18, _)] ⟨rfl, rfl, rfl, trivial⟩ ?_
  refine then_next ?_
  refine vc_decideU rfl (fun h18 => ?_) (fun h18 => ?_)
  · skip
    refine vc_skip ?_
    refine then_next ?_
    refine vc_seq ?_
    refine vc_block ?_
    refine vc_seq ?_
    refine vc_region ?_
    refine vl_det (det_move rfl) rfl ?_
    refine vl_det (det_nilCheck rfl) rfl ?_
    refine vl_det (det_fieldAddr_ Try.underlying198 rfl (by kernel_rfl) rfl rfl) rfl ?_
    refine vl_det (det_move rfl) rfl ?_
    refine vl_call co147 rfl (bit_d q k (by omega) (by omega) _ (packed q) rfl rfl (by repeat (first | exact .hd | apply Sel.tl)) (by first | (exact Bor.own (by repeat (first | exact List.Mem.head _ | apply List.Mem.tail))) | (repeat (first | assumption | apply Bor.cons)))) rfl ?_
    rintro _ _ ⟨rfl, hLL⟩
    obtain rfl := hLL.symm
    refine vl_det (det_eql rfl rfl) rfl ?_
    refine vl_end [(0, _), (4, _), (26, _)] ⟨rfl, rfl, rfl, trivial⟩ ?_
    refine then_next ?_
    refine vc_decideU rfl (fun h26 => ?_) (fun h26 => ?_)
    · skip
      have hb1 : bitn q k = 1 := by omega
      have hzk := z_hit hb1 (by omega)
      have hzg := zp_ge q p
      have hzl : Z q p < q.length := by omega
      refine vc_seq ?_
      refine vc_region ?_
      refine vl_det (det_move rfl) rfl ?_
      refine vl_det (det_move rfl) rfl ?_
      refine vl_det (det_nilCheck rfl) rfl ?_
      refine vl_det (det_fieldAddr_ Try.underlying198 rfl (by kernel_rfl) rfl rfl) rfl ?_
      refine vl_det (det_load_blk (by kernel_rfl) rfl (by repeat (first | exact .hd | apply Sel.tl)) rfl) rfl ?_
      refine vl_det (det_sub rfl rfl (w_i64 (by omega) (by omega))) rfl ?_
      refine vl_det (det_assign rfl) rfl ?_
      refine vl_end [(0, _), (4, _), (5, _)] ⟨rfl, rfl, rfl, trivial⟩ ?_
      refine then_next ?_
      refine vc_seq ?_
      refine vc_region ?_
      refine vl_det (det_move rfl) rfl ?_
      refine vl_det (det_move rfl) rfl ?_
      refine vl_det (det_add rfl rfl (w_i64 (by omega) (by omega))) rfl ?_
      refine vl_det (det_nilCheck rfl) rfl ?_
      refine vl_det (det_fieldAddr_ Try.underlying198 rfl (by kernel_rfl) rfl rfl) rfl ?_
      refine vl_eff0 (eff_store (by kernel_rfl) rfl rfl rfl (by repeat (first | exact .hd | apply Sel.tl)) (by simp)) ?_
      rintro _ _ rfl
      refine vl_end [(5, _)] ⟨rfl, trivial⟩ ?_
      refine then_next ?_
      refine vc_seq ?_
      refine vc_region ?_
      refine vl_det (det_move rfl) rfl ?_
      refine vl_det (det_assign rfl) rfl ?_
      refine vl_det (det_assign rfl) rfl ?_
      refine vl_end [(2, _), (3, _)] ⟨rfl, rfl, trivial⟩ ?_
      refine then_next ?_
      refine vc_ret ?_
      refine in_ret ?_
      refine then_ret ?_
      refine loop_ret ?_
      refine in_ret ?_
      refine then_ret ?_
      refine ret_wk (L' := Rr g A c q (unP q p) F) (wk_blk (by simp only [unP, if_pos hzl]; refine rr_at _ _ (?_ : _ = _); omega) (.refl _)) ?_
      refine ret2 rfl rfl rfl ?_
      simp only [unV, unR, if_pos hzl]; exact ⟨congrArg (fun x => Value.tuple #[.int .i64 x, .int .i64 0]) (by omega), trivial⟩
    · skip
      refine vc_skip ?_
      refine in_normal ?_
      refine then_next ?_
      refine vc_region ?_
      refine vl_det (det_move rfl) rfl ?_
      refine vl_det (det_add rfl rfl (w_i64 (by omega) (by omega))) rfl ?_
      refine vl_det (det_assign rfl) rfl ?_
      refine vl_end [(0, _), (4, _)] ⟨rfl, rfl, trivial⟩ ?_
      refine in_loop_ ⟨_, by omega, k + 1, ⟨by omega, by rw [hz]; exact z_step (by omega) (by omega)⟩, rfl, ⟨(by first | rfl | exact int_to (by omega) | exact sl_to (by omega)), (by first | rfl | exact int_to (by omega) | exact sl_to (by omega)), trivial⟩, .refl _⟩
  · skip
    refine vc_exit ?_
    refine then_exit ?_
    refine loop_exit ?_
    refine in_eq ?_
    refine then_next ?_
    refine vc_seq ?_
    refine vc_region ?_
    refine vl_det (det_assign rfl) rfl ?_
    refine vl_det (det_assign rfl) rfl ?_
    refine vl_end [(2, _), (3, _)] ⟨rfl, rfl, trivial⟩ ?_
    refine then_next ?_
    refine vc_ret ?_
    refine ret2 rfl rfl rfl ?_
    have hzl : ¬ Z q p < q.length := by have := z_end (q := q) (k := k) (by omega); omega
    simp only [unV, unR, unP, if_neg hzl]; exact ⟨by first | rfl | trivial, by first | rfl | trivial⟩
end Go.Proofs.Ytpamjobiohbibaa
