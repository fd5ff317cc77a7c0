/-
  'PostBack': an index that was written is read; each row of bytes that is read is the one that is written. No condition.
-/
import Derived.Test.YtpamjobiohbibaaGreatGb12
import Derived.Test.YtpamjobiohbibaaGreatRows
namespace Go.Proofs.YtpamjobiohbibaaGreat.lawPostBack
open Go.ChangeShapes Go.WideShapes Go.ChangeAt Go.RowKit
open Go.ChangeMaps (open_string shut_string)
set_option linter.unusedVariables false
set_option maxRecDepth 20000
theorem walk (w : World) (size : Int) (hsz : -9223372036854775808 ≤ size ∧ size ≤ 9223372036854775807) (bound : Int) (hbd : -9223372036854775808 ≤ bound ∧ bound ≤ 9223372036854775807) (x : IdxX) (hx : IdxX.ok w x) (v : Value) (b : List UInt8) (hr : Rd w w.heap.size 1 v b.length (bv b)) (hm : b.length ≤ maxLen) :
    Calls Tryz.prog 3 #[.int .i64 size, .int .i64 bound, .agg (IdxX.cells x).toArray, v] w fun e w' => e = .returned (.bool true) ∧ Below w.heap.size w w' := by
  obtain ⟨A1, c1, B1, b1, T, LL, hcx, h1, hL, hI, hm1, hm2, hm3⟩ := idx_open hx
  rw [hcx]
  obtain ⟨A0, c0, rfl, hc0⟩ := hr.form
  have hbo : Bor w.heap.size w [] 1 (.slice A0 b.length c0) b.length (bv b) := Bor.in_ hr
  simp only [maxLen] at hm hm1 hm2 hm3
  clear hcx hx
  have hpr := fun F hb hl => @pread_d w.heap.size w F A0 c0 bound size b hb hl
  have hone := fun h => @idx_one size bound b h hsz.2
  have hS := @idxRd_sz bound size b hsz.2
  obtain ⟨D, hD⟩ : ∃ D, D = idxRd size bound b := ⟨_, rfl⟩
  rw [← hD] at hpr hone hS
  obtain ⟨T2, I2, er⟩ := D
  unfold IdxQ at hpr
  simp only at hpr hone hS
  obtain ⟨hs1, hs2, hs3⟩ := hS
  clear hD
  refine Does.law (args := [.int .i64 size, .int .i64 bound, IdxA A1 T.length c1 B1 LL.length b1, .slice A0 b.length c0]) ?_
  refine fn_walk Tryz.func3 78 rfl rfl rfl [(0, .int .i64 size), (1, .int .i64 bound), (2, IdxA A1 T.length c1 B1 LL.length b1), (3, .slice A0 b.length c0)] ⟨⟨rfl, rfl⟩, ⟨rfl, rfl⟩, ⟨rfl, rfl⟩, ⟨rfl, rfl⟩, trivial⟩ ?_
  refine vc_seq ?_
  refine vc_region ?_
  refine vl_eff (eff_box rfl rfl) rfl ?_
  rintro _ _ ⟨g6, rfl, rfl⟩
  refine vl_det (det_assign rfl) rfl ?_
  refine vl_end [(0, _), (1, _), (3, _), (6, _)] ⟨rfl, rfl, rfl, rfl, trivial⟩ ?_
  refine then_next ?_
  refine vc_seq ?_
  refine vc_seq ?_
  refine vc_region ?_
  refine vl_call co4 rfl (alive_d) rfl ?_
  rintro _ _ ⟨rfl, hLL⟩
  obtain rfl := hLL.symm
  refine vl_det (det_not_t rfl) rfl ?_
  refine vl_end [(0, _), (1, _), (3, _), (6, _), (18, _)] ⟨rfl, rfl, rfl, rfl, rfl, trivial⟩ ?_
  refine then_next ?_
  refine vc_cond_f rfl ?_
  refine vc_skip ?_
  refine then_next ?_
  refine vc_seq ?_
  refine vc_seq ?_
  refine vc_region ?_
  refine vl_det (det_load_whole 2 (by kernel_rfl) rfl (by repeat (first | exact .hd | apply Sel.tl)) (by first | rfl | (simp; omega) | (simp [*]; done))) rfl ?_
  refine vl_call co5 rfl (great18_d (by first | (exact Bor.own (by repeat (first | exact List.Mem.head _ | apply List.Mem.tail))) | (repeat (first | assumption | apply Bor.cons))) (by first | (exact Bor.own (by repeat (first | exact List.Mem.head _ | apply List.Mem.tail))) | (repeat (first | assumption | apply Bor.cons))) (by omega) (by omega)) rfl ?_
  rintro _ _ ⟨bg, rfl, hLL, hbg⟩
  obtain rfl := hLL.symm
  refine vl_det (det_move rfl) rfl ?_
  refine vl_guard rfl rfl rfl (fun h21 => ?_) (fun h21 => ?_)
  · skip
    refine vl_det (det_move rfl) rfl ?_
    refine vl_guard_t rfl rfl ?_
    refine vl_det (det_len_sl Tryz.underlying26 rfl) rfl ?_
    refine vl_guard_t rfl rfl ?_
    refine vl_det (det_gtr rfl rfl) rfl ?_
    refine vl_det (det_pick_f rfl rfl) rfl ?_
    refine vl_end [(0, _), (1, _), (3, _), (6, _), (25, _)] ⟨rfl, rfl, rfl, rfl, rfl, trivial⟩ ?_
    refine then_next ?_
    refine vc_decideU rfl (fun h25 => ?_) (fun h25 => ?_)
    · skip
      refine vc_seq ?_
      refine vc_region ?_
      refine vl_det (det_assign rfl) rfl ?_
      refine vl_end [(8, _)] ⟨rfl, trivial⟩ ?_
      refine then_next ?_
      refine vc_ret ?_
      refine then_ret ?_
      refine ret_wk (L' := []) (wk_drop _) ?_
      refine ret1 rfl rfl ?_
      rfl
    · skip
      obtain ⟨hg1, hg2, hg3⟩ := hbg (by assumption)
      have hs30 : ∀ e ∈ LL, e.2.2.length ≤ 9000000000000000000 := fun e he => Nat.le_trans (hg3 e he) (by omega)
      refine vc_skip ?_
      refine then_next ?_
      refine vc_seq ?_
      refine vc_region ?_
      refine vl_det (det_move rfl) rfl ?_
      refine vl_det (det_move rfl) rfl ?_
      refine vl_det (det_load_whole 2 (by kernel_rfl) rfl (by repeat (first | exact .hd | apply Sel.tl)) (by first | rfl | (simp; omega) | (simp [*]; done))) rfl ?_
      refine vl_call co6 rfl (pbytes_d (by first | (exact Bor.own (by repeat (first | exact List.Mem.head _ | apply List.Mem.tail))) | (repeat (first | assumption | apply Bor.cons))) (by first | (exact Bor.own (by repeat (first | exact List.Mem.head _ | apply List.Mem.tail))) | (repeat (first | assumption | apply Bor.cons))) (hI.mono (List.sublist_append_right [_] _)) hs30 (by omega)) rfl ?_
      rintro _ _ ⟨A30, c30, rfl, hLL⟩
      obtain rfl := hLL.symm
      refine vl_det (det_move rfl) rfl ?_
      refine vl_det (det_extract rfl rfl) rfl ?_
      refine vl_det (det_extract rfl rfl) rfl ?_
      refine vl_det (det_assign rfl) rfl ?_
      refine vl_det (det_assign rfl) rfl ?_
      refine vl_end [(0, _), (1, _), (3, _), (6, _), (9, _), (10, _)] ⟨rfl, rfl, rfl, rfl, rfl, rfl, trivial⟩ ?_
      refine then_next ?_
      refine vc_seqJ (fun zf zL => Sub zf [(0, .int .i64 size), (1, .int .i64 bound), (3, .slice A0 b.length c0)] ∧ Wk zL ([])) ?_ ?_
      · skip
        refine vc_seq ?_
        refine vc_region ?_
        refine vl_det (det_move rfl) rfl ?_
        refine vl_det (det_eql rfl rfl) rfl ?_
        refine vl_end [(0, _), (1, _), (3, _), (6, _), (9, _), (34, _)] ⟨rfl, rfl, rfl, rfl, rfl, rfl, trivial⟩ ?_
        refine then_next ?_
        refine vc_decideU rfl (fun h34 => ?_) (fun h34 => ?_)
        · skip
          have hok : 1 ≤ size ∧ size ≤ 64 ∧ idxOk bound T (idsI LL) := by
            refine Classical.byContradiction fun q => ?_
            rw [idxW_bad (by
              rcases Int.lt_or_le size 1 with h | h
              · exact .inl h
              · rcases Int.lt_or_le 64 size with h' | h'
                · exact .inr (.inl h')
                · exact .inr (.inr fun hh => q ⟨h, h', hh⟩))] at h34
            exact absurd h34 (by decide)
          obtain ⟨hz1, hz2, hok⟩ := hok
          obtain ⟨sz, rfl⟩ := Int.eq_ofNat_of_zero_le (show 0 ≤ size by omega)
          obtain ⟨bn, N, rfl, hbn, hN, hRT, hTN, hNx⟩ := idxOk_nats hok
          have hW := idxW_cast (sz := sz) (by omega) (by omega) hbn hRT hTN hNx
          rw [hN, hW]
          have hNl : LL.length = N.length := by have := congrArg List.length hN; simpa [idsI, castI] using this
          have hN100 : ∀ y ∈ N, y.length ≤ 100 := fun y hy => by
            have : y.map (fun (n : Nat) => (n : Int)) ∈ idsI LL := by rw [hN]; exact List.mem_map_of_mem hy
            obtain ⟨e, he, h⟩ := List.mem_map.1 this
            have h2 := hg3 e he
            rw [h] at h2
            simpa using h2
          dsimp only
          refine vc_seq ?_
          refine vc_region ?_
          refine vl_det (det_move rfl) rfl ?_
          refine vl_det (det_move rfl) rfl ?_
          refine vl_det (det_move rfl) rfl ?_
          refine vl_call co7 rfl (pread_back (by omega) (by omega) hbn hRT hTN hNx hg1 hN100 (by first | (exact Bor.own (by repeat (first | exact List.Mem.head _ | apply List.Mem.tail))) | (repeat (first | assumption | apply Bor.cons)))) rfl ?_
          rintro _ _ ⟨A3, c3, A4, c4, LM, rfl, hI1, hLL⟩
          obtain rfl := hLL.symm
          refine vl_det (det_move rfl) rfl ?_
          refine vl_det (det_extract rfl rfl) rfl ?_
          refine vl_det (det_extract rfl rfl) rfl ?_
          refine vl_eff (eff_alloc_z (zv := (.agg #[.slice none 0 0, .slice none 0 0])) (by kernel_rfl) rfl) rfl ?_
          rintro _ _ ⟨g11, rfl, rfl⟩
          refine vl_eff0 (eff_store_whole 2 (by kernel_rfl) rfl rfl (by first | exact bv_one _ | exact strs_one _ | exact ints_one _ _ | (simp; done) | (simp [Value.oneCell']; done) | assumption) (by repeat (first | exact .hd | apply Sel.tl)) (by first | rfl | (simp; omega) | (simp [*]; done)) (by first | rfl | (simp; omega) | (simp [*]; done))) ?_
          rintro _ _ rfl
          refine vl_det (det_assign rfl) rfl ?_
          refine vl_end [(0, _), (1, _), (3, _), (6, _), (11, _), (12, _)] ⟨rfl, rfl, rfl, rfl, rfl, rfl, trivial⟩ ?_
          refine then_next ?_
          refine vc_seq ?_
          refine vc_perm (mid3 (LM.map lRow)) ?_
          refine vc_perm (mid4 (LM.map lRow)) ?_
          refine vc_region ?_
          refine vl_det (det_move rfl) rfl ?_
          refine vl_det (det_neq rfl rfl) rfl ?_
          refine vl_det (det_move rfl) rfl ?_
          refine vl_guardn rfl rfl rfl (fun h44 => ?_) (fun h44 => ?_)
          · skip
            refine vl_det (det_load_whole 2 (by kernel_rfl) rfl (by repeat (first | exact .hd | apply Sel.tl)) (by first | rfl | (simp; omega) | (simp [*]; done))) rfl ?_
            refine vl_guard_t rfl rfl ?_
            refine vl_det (det_load_whole 2 (by kernel_rfl) rfl (by repeat (first | exact .hd | apply Sel.tl)) (by first | rfl | (simp; omega) | (simp [*]; done))) rfl ?_
            refine vl_guard_t rfl rfl ?_
            refine vl_call co8 rfl (rsame18_n (T1 := T) (T2 := T) (L1 := LL) (L2 := toI LM) rfl (toI_len LM) (h1.mono (List.nil_sublist _)) (hL.mono (List.nil_sublist _)) (hI.mono (List.nil_sublist _)) (by first | (exact Bor.own (by repeat (first | exact List.Mem.head _ | apply List.Mem.tail))) | (repeat (first | assumption | apply Bor.cons))) (by rw [toI_val]; exact (by first | (exact Bor.own (by repeat (first | exact List.Mem.head _ | apply List.Mem.tail))) | (repeat (first | assumption | apply Bor.cons)))) (toI_bor fun e he => List.mem_cons_of_mem _ (List.mem_cons_of_mem _ (List.mem_cons_of_mem _ (List.mem_cons_of_mem _ (List.mem_cons_of_mem _ (List.mem_append_left _ (List.mem_map_of_mem he))))))) (by omega) (by omega) (fun e he => Nat.le_trans (hg3 e he) (by omega))) rfl ?_
            rintro _ _ ⟨rfl, hLL⟩
            obtain rfl := hLL.symm
            refine vl_guard_t rfl rfl ?_
            refine vl_det (det_notd rfl) rfl ?_
            refine vl_det (det_pick_f rfl rfl) rfl ?_
            refine vl_end [(0, _), (1, _), (3, _), (49, _)] ⟨rfl, rfl, rfl, rfl, trivial⟩ ?_
            refine then_next ?_
            refine vc_decideU rfl (fun h49 => ?_) (fun h49 => ?_)
            · skip
              exfalso; exact h49 ⟨rfl, by rw [hN, toI_ids, hI1]; rfl⟩
            · skip
              refine vc_skip ?_
              exact in_join ⟨⟨(by first | rfl | exact int_to (by omega) | exact sl_to (by omega)), (by first | rfl | exact int_to (by omega) | exact sl_to (by omega)), (by first | rfl | exact int_to (by omega) | exact sl_to (by omega)), trivial⟩, wk_drop _⟩
          · skip
            exfalso; exact h44 rfl
        · skip
          refine vc_skip ?_
          exact in_join ⟨⟨(by first | rfl | exact int_to (by omega) | exact sl_to (by omega)), (by first | rfl | exact int_to (by omega) | exact sl_to (by omega)), (by first | rfl | exact int_to (by omega) | exact sl_to (by omega)), trivial⟩, wk_drop _⟩
      · rintro _ _ ⟨hs, hp⟩
        refine vc_weaken _ hs (vc_wk hp ?_)
        clear hs hp
        refine vc_seq ?_
        refine vc_region ?_
        refine vl_det (det_move rfl) rfl ?_
        refine vl_det (det_move rfl) rfl ?_
        refine vl_det (det_move rfl) rfl ?_
        refine vl_call co7 rfl (hpr _ (by first | (exact Bor.own (by repeat (first | exact List.Mem.head _ | apply List.Mem.tail))) | (repeat (first | assumption | apply Bor.cons))) (by omega)) rfl ?_
        rintro _ _ ⟨A5, c5, A6, c6, LK, rfl, hI2, hLL⟩
        obtain rfl := hLL.symm
        refine vl_det (det_move rfl) rfl ?_
        refine vl_det (det_extract rfl rfl) rfl ?_
        refine vl_det (det_extract rfl rfl) rfl ?_
        refine vl_eff (eff_alloc_z (zv := (.agg #[.slice none 0 0, .slice none 0 0])) (by kernel_rfl) rfl) rfl ?_
        rintro _ _ ⟨g13, rfl, rfl⟩
        refine vl_eff0 (eff_store_whole 2 (by kernel_rfl) rfl rfl (by first | exact bv_one _ | exact strs_one _ | exact ints_one _ _ | (simp; done) | (simp [Value.oneCell']; done) | assumption) (by repeat (first | exact .hd | apply Sel.tl)) (by first | rfl | (simp; omega) | (simp [*]; done)) (by first | rfl | (simp; omega) | (simp [*]; done))) ?_
        rintro _ _ rfl
        refine vl_det (det_assign rfl) rfl ?_
        refine vl_end [(0, _), (1, _), (3, _), (13, _), (14, _)] ⟨rfl, rfl, rfl, rfl, rfl, trivial⟩ ?_
        refine then_next ?_
        refine vc_seq ?_
        refine vc_seq ?_
        refine vc_region ?_
        refine vl_det (det_move rfl) rfl ?_
        refine vl_det (det_neq rfl rfl) rfl ?_
        refine vl_end [(0, _), (1, _), (3, _), (13, _), (58, _)] ⟨rfl, rfl, rfl, rfl, rfl, trivial⟩ ?_
        refine then_next ?_
        refine vc_decideU rfl (fun h58 => ?_) (fun h58 => ?_)
        · skip
          refine vc_seq ?_
          refine vc_region ?_
          refine vl_det (det_assign rfl) rfl ?_
          refine vl_end [(8, _)] ⟨rfl, trivial⟩ ?_
          refine then_next ?_
          refine vc_ret ?_
          refine then_ret ?_
          refine ret_wk (L' := []) (wk_drop _) ?_
          refine ret1 rfl rfl ?_
          rfl
        · skip
          obtain ⟨sz, bn, rfl, rfl, hz1, hz2, hbn, hRT, hTN, hNx, hbe⟩ := hone (by simpa using h58)
          have hids : idsI (toI LK) = castI I2 := by rw [toI_ids, hI2]; rfl
          have hW := idxW_cast hz1 hz2 hbn hRT hTN hNx
          rw [hbe, ← hids] at hW
          have hle := ids_le hI2 hs3
          refine vc_skip ?_
          refine then_next ?_
          refine vc_seq ?_
          refine vc_region ?_
          refine vl_det (det_move rfl) rfl ?_
          refine vl_det (det_move rfl) rfl ?_
          refine vl_det (det_load_whole 2 (by kernel_rfl) rfl (by repeat (first | exact .hd | apply Sel.tl)) (by first | rfl | (simp; omega) | (simp [*]; done))) rfl ?_
          refine vl_call co6 rfl (pbytes_n (LL := toI LK) (toI_len LK) (by first | (exact Bor.own (by repeat (first | exact List.Mem.head _ | apply List.Mem.tail))) | (repeat (first | assumption | apply Bor.cons))) (by rw [toI_val]; exact (by first | (exact Bor.own (by repeat (first | exact List.Mem.head _ | apply List.Mem.tail))) | (repeat (first | assumption | apply Bor.cons)))) (toI_bor fun e he => List.mem_cons_of_mem _ (List.mem_cons_of_mem _ (List.mem_cons_of_mem _ (List.mem_append_left _ (List.mem_map_of_mem he))))) (fun e he => by have := hle e he; omega) (by omega) hW) rfl ?_
          rintro _ _ ⟨A63, c63, rfl, hLL⟩
          obtain rfl := hLL.symm
          refine vl_det (det_move rfl) rfl ?_
          refine vl_det (det_extract rfl rfl) rfl ?_
          refine vl_det (det_extract rfl rfl) rfl ?_
          refine vl_det (det_assign rfl) rfl ?_
          refine vl_det (det_assign rfl) rfl ?_
          refine vl_end [(1, _), (3, _), (13, _), (15, _), (16, _)] ⟨rfl, rfl, rfl, rfl, rfl, trivial⟩ ?_
          refine then_next ?_
          refine vc_seq ?_
          refine vc_region ?_
          refine vl_det (det_move rfl) rfl ?_
          refine vl_det (det_eql rfl rfl) rfl ?_
          refine vl_det (det_move rfl) rfl ?_
          refine vl_guardp rfl rfl rfl (fun h68 => ?_) (fun h68 => ?_)
          · skip
            refine vl_det (det_move rfl) rfl ?_
            refine vl_guard_t rfl rfl ?_
            refine vl_det (det_move rfl) rfl ?_
            refine vl_guard_t rfl rfl ?_
            refine vl_call co9 rfl (same_d (by first | (exact Bor.own (by repeat (first | exact List.Mem.head _ | apply List.Mem.tail))) | (repeat (first | assumption | apply Bor.cons))) (hbo.mono (List.nil_sublist _))) rfl ?_
            rintro _ _ ⟨rfl, hLL⟩
            obtain rfl := hLL.symm
            refine vl_det (det_pick_t rfl rfl) rfl ?_
            refine vl_det (det_move rfl) rfl ?_
            refine vl_guardp rfl rfl rfl (fun h73 => ?_) (fun h73 => ?_)
            · skip
              refine vl_det (det_move rfl) rfl ?_
              refine vl_guard_t rfl rfl ?_
              refine vl_det (det_load_whole 2 (by kernel_rfl) rfl (by repeat (first | exact .hd | apply Sel.tl)) (by first | rfl | (simp; omega) | (simp [*]; done))) rfl ?_
              refine vl_guard_t rfl rfl ?_
              refine vl_call co10 rfl (rmay18_n (LL := toI LK) (toI_len LK) (by first | (exact Bor.own (by repeat (first | exact List.Mem.head _ | apply List.Mem.tail))) | (repeat (first | assumption | apply Bor.cons))) (by rw [toI_val]; exact (by first | (exact Bor.own (by repeat (first | exact List.Mem.head _ | apply List.Mem.tail))) | (repeat (first | assumption | apply Bor.cons)))) (toI_bor fun e he => List.mem_cons_of_mem _ (List.mem_cons_of_mem _ (List.mem_cons_of_mem _ (List.mem_cons_of_mem _ (List.mem_append_left _ (List.mem_map_of_mem he)))))) (fun e he => by have := hle e he; omega) (by omega) (by rw [hids]; exact idxOk_cast hbn hRT hTN hNx)) rfl ?_
              rintro _ _ ⟨rfl, hLL⟩
              obtain rfl := hLL.symm
              refine vl_det (det_pick_t rfl rfl) rfl ?_
              refine vl_det (det_assign rfl) rfl ?_
              refine vl_end [(8, _)] ⟨rfl, trivial⟩ ?_
              refine then_next ?_
              refine vc_ret ?_
              refine ret_wk (L' := []) (wk_drop _) ?_
              refine ret1 rfl rfl ?_
              rfl
            · skip
              exfalso; exact h73 rfl
          · skip
            exfalso; exact h68 rfl
  · skip
    refine vl_guard_f rfl rfl rfl rfl ?_
    refine vl_guard_f rfl rfl rfl rfl ?_
    refine vl_det (det_pick_t rfl rfl) rfl ?_
    refine vl_end [(0, _), (1, _), (3, _), (6, _), (25, _)] ⟨rfl, rfl, rfl, rfl, rfl, trivial⟩ ?_
    refine then_next ?_
    refine vc_cond_t rfl ?_
    refine vc_seq ?_
    refine vc_region ?_
    refine vl_det (det_assign rfl) rfl ?_
    refine vl_end [(8, _)] ⟨rfl, trivial⟩ ?_
    refine then_next ?_
    refine vc_ret ?_
    refine then_ret ?_
    refine ret_wk (L' := []) (wk_drop _) ?_
    refine ret1 rfl rfl ?_
    rfl
theorem own : ownKnob Tryz.prog.godebug = none := by kernel_rfl
theorem laidOut : laidOutB Tryz.prog = true := by kernel_rfl
set_option maxRecDepth 100000 in
theorem lifted (os : Os) (started : os.Started) (H : Type) (enc : TypeId × Value → H) :
    ReturnsInHanded {} Tryz.checked os 3 .any (Rows.postBackSpec.pre6 enc Tryz.prog Tryz.f3 Rows.postBackRow.domain false) (Rows.postBackSpec.post enc Tryz.prog Tryz.f3 false true false false) := by
  refine returnsInHanded_of_change (C := Tryz.checked) own started (by kernel_rfl) Tryz.func3
    (ChangeSpec.witness6 (enc := enc) (C := Tryz.checked) false ⟨#[], #[.int .i64 0, .int .i64 0, (.agg #[.slice none 0 0, .slice none 0 0]), .slice none 0 0], []⟩ 8 (by kernel_rfl) (by kernel_rfl) (by kernel_rfl) (by kernel_rfl)) ?_
  intro W base args ds gs before hval0 hW hcnd _
  have hval : ∀ (j : Nat) t v, Tryz.f3.params[j]? = some t → args[j]? = some v → Value.okWide Tryz.prog W .any base t v := hval0
  have hW' := hW
  obtain ⟨p, q, hA0, hV, rfl, hfz, hnd⟩ := hW
  have hA : DataW.TrodAll enc Tryz.prog W 0 (fun _ => true) true Tryz.f3.params.toList args.toList ds p := hA0
  rw [Tryz.params3] at hA hval
  obtain ⟨v0', vs0, d0, ds0, p0, q0, hargs, rfl, rfl, h0', r0⟩ := trodAll_cons hA
  obtain ⟨v1', vs1, d1, ds1, p1, q1, rfl, rfl, rfl, h1', r1⟩ := trodAll_cons r0
  obtain ⟨v2', vs2, d2, ds2, p2, q2, rfl, rfl, rfl, h2', r2⟩ := trodAll_cons r1
  obtain ⟨v3', vs3, d3, ds3, p3, q3, rfl, rfl, rfl, h3', r3⟩ := trodAll_cons r2
  obtain ⟨rfl, rfl, rfl⟩ := trodAll_nil r3
  obtain rfl : args = #[v0', v1', v2', v3'] := by cases args; simp_all
  obtain ⟨rfl, rfl⟩ := trodVars_none hV
  have k0 := h0'
  have lt0 : ∀ x ∈ p0, x.block < W.heap.size := by obtain ⟨m, hm⟩ := k0; exact DataW.trod_lt m _ _ _ hm
  obtain ⟨a0, rfl, hd0, hp0, w0⟩ := open_int Tryz.underlying3 (hval 0 3 v0' rfl rfl) h0'
  have k1 := h1'
  have lt1 : ∀ x ∈ p1, x.block < W.heap.size := by obtain ⟨m, hm⟩ := k1; exact DataW.trod_lt m _ _ _ hm
  obtain ⟨a1, rfl, hd1, hp1, w1⟩ := open_int Tryz.underlying3 (hval 1 3 v1' rfl rfl) h1'
  have k2 := h2'
  have lt2 : ∀ x ∈ p2, x.block < W.heap.size := by obtain ⟨m, hm⟩ := k2; exact DataW.trod_lt m _ _ _ hm
  obtain ⟨x2, e2, w2⟩ := DecT.arg (w := W) (dec_idx W) k2
  obtain rfl := agg_of Tryz.underlying25 (hval 2 25 v2' rfl rfl) e2
  have k3 := h3'
  have lt3 : ∀ x ∈ p3, x.block < W.heap.size := by obtain ⟨m, hm⟩ := k3; exact DataW.trod_lt m _ _ _ hm
  obtain ⟨A3, n3, c3, rfl⟩ := okWide_slice Tryz.underlying26 (hval 3 26 v3' rfl rfl)
  obtain ⟨⟨u3, L3⟩, e3, hr3, ho3, hm3⟩ := DecT.arg (dec_slice Tryz.underlying26 (by kernel_rfl : Tryz.prog.cellsOf 5 = 1) (by omega) (fun _ => rfl) (dec_u8 (w := W) Tryz.underlying5)) k3
  obtain rfl := cells_slice A3 n3 c3 rfl e3
  rw [flatMap_bv] at hr3
  clear hA0 hval0
  refine (walk W a0 (bounds_i64 w0) a1 (bounds_i64 w1) x2 w2 _ L3 hr3 hm3).mono fun e W' ⟨he, bel⟩ => ?_
  subst he
  exact ⟨_, rfl, _, _, _, [], _, [], hW', trodAll_mk1 (shut_bool Tryz.underlying4 _), (trodAll_cons_mk (Below.trod laidOut (by kernel_rfl) (of_decide_eq_true (by kernel_rfl)) k0 bel lt0) (trodAll_cons_mk (Below.trod laidOut (by kernel_rfl) (of_decide_eq_true (by kernel_rfl)) k1 bel lt1) (trodAll_cons_mk (Below.trod laidOut (by kernel_rfl) (of_decide_eq_true (by kernel_rfl)) k2 bel lt2) (trodAll_cons_mk (Below.trod laidOut (by kernel_rfl) (of_decide_eq_true (by kernel_rfl)) k3 bel lt3) trodAll_mk0)))), rfl, bel.frame _, fun h => by cases h⟩

theorem over : Rows.postBackRow.holds Tryz.pinned (OpenSpec.ofChange Rows.postBackSpec) :=
  OpenClaim.holds_of_wide 3 Tryz.f3 rfl rfl rfl rfl rfl rfl rfl ⟨rfl, rfl, rfl, rfl, rfl⟩ rfl rfl rfl rfl rfl (by kernel_rfl) Tryz.func3 (by kernel_rfl)
    (of_decide_eq_true (by kernel_rfl)) (by unfold Func.isWrapper; first | (rw [if_pos (by decide +kernel)]; kernel_rfl) | (rw [if_neg (by decide +kernel)]; exact ⟨rfl, rfl⟩))
    (fun os started H enc _ => lifted os started H enc)

theorem proved : Rows.PostBackSaid := over
#print axioms proved
end Go.Proofs.YtpamjobiohbibaaGreat.lawPostBack
