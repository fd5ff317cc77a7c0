/-
  'PostMore': one more record changes the lists of its terms alone, by its number behind them. No condition.
-/
import Derived.Test.YtpamjobiohbibaaMp15
import Derived.Test.YtpamjobiohbibaaRows
namespace Go.Proofs.Ytpamjobiohbibaa.lawPostMore
open Go.ChangeShapes Go.WideShapes Go.ChangeAt Go.RowKit
open Go.ChangeMaps (open_string shut_string)
set_option linter.unusedVariables false
set_option maxRecDepth 20000
set_option maxHeartbeats 1000000 in
theorem walk (w : World) (v : Value) (l : List RecC) (hr : Rd w w.heap.size 4 v l.length (recs l)) (ho : ∀ x ∈ l, RecC.ok x) (hm : l.length ≤ maxLen) (x : RecC) (hx : RecC.ok x) :
    Calls Try.prog 4 #[v, .agg (RecC.cells x).toArray] w fun e w' => e = .returned (.bool true) ∧ Below w.heap.size w w' := by
  obtain ⟨A0, c0, rfl, hc0⟩ := hr.form
  have hbo : Bor w.heap.size w [] 4 (.slice A0 l.length c0) l.length (recs l) := Bor.in_ hr
  simp only [maxLen] at hm
  obtain ⟨tm, lv, src, txt⟩ := x
  obtain ⟨_, _, hx3, hx4⟩ := hx
  simp only [maxLen] at hx3 hx4
  have hl2 : (l ++ [((tm, lv, src, txt) : RecC)]).length = l.length + 1 := by simp
  have hw2 : wsum (l ++ [((tm, lv, src, txt) : RecC)]) = wsum l + (16 + src.length + txt.length) := by rw [wsum_app]; rfl
  have hrc2 : recs (l ++ [((tm, lv, src, txt) : RecC)]) = recs l ++ [.int .u64 tm, .int .u8 (lv.toNat : Int), .string ⟨src.toArray⟩, .string ⟨txt.toArray⟩] := recs_app _ _
  have hro := recs_one l
  have hXY := bldT_more l (tm, lv, src, txt)
  have hls := lsF_more l (tm, lv, src, txt)
  have hg1 := fun LL h k hk => @bld_get l LL h k hk
  have hg2 := fun LL h k hk => @bld_get (l ++ [((tm, lv, src, txt) : RecC)]) LL h k hk
  have hfl : ∀ s, (lsF (tmF l) l.length s).length ≤ l.length := fun s => by
    unfold lsF; exact Nat.le_trans (List.length_filter_le _ _) (by simp)
  have hbX : (bldT (tmF l) l.length).length ≤ wsum l := by
    have h1 := setT_len ((List.range l.length).flatMap (tmF l))
    have h2 := bldT_len l l.length (Nat.le_refl _)
    rw [List.take_length] at h2
    unfold bldT; omega
  have hbY : (bldT (tmF (l ++ [((tm, lv, src, txt) : RecC)])) (l.length + 1)).length ≤ wsum (l ++ [((tm, lv, src, txt) : RecC)]) := by
    have h1 := setT_len ((List.range (l.length + 1)).flatMap (tmF (l ++ [((tm, lv, src, txt) : RecC)])))
    have h2 := bldT_len (l ++ [((tm, lv, src, txt) : RecC)]) (l.length + 1) (by rw [hl2]; exact Nat.le_refl _)
    have h3 := wsum_le (l ++ [((tm, lv, src, txt) : RecC)]) (l.length + 1)
    unfold bldT; omega
  have hlX : (bldL (tmF l) l.length).length = (bldT (tmF l) l.length).length := by simp [bldL]
  have hlY : (bldL (tmF (l ++ [((tm, lv, src, txt) : RecC)])) (l.length + 1)).length = (bldT (tmF (l ++ [((tm, lv, src, txt) : RecC)])) (l.length + 1)).length := by simp [bldL]
  have hp1 := fun F hb hw => @build_d w.heap.size w F A0 c0 l hb hw
  have hp2 := fun F A c hb hw => @build_d w.heap.size w F A c (l ++ [((tm, lv, src, txt) : RecC)]) hb hw
  have htd := fun F h => @ptrm_d w.heap.size w F ((tm, lv, src, txt) : RecC) h
  have htl := trm_len ((tm, lv, src, txt) : RecC)
  rw [hl2] at hg2 hp2
  rw [hrc2] at hp2
  simp only [hls] at hg2
  obtain ⟨LX, hLX⟩ : ∃ L, L = bldL (tmF l) l.length := ⟨_, rfl⟩
  obtain ⟨LY, hLY⟩ : ∃ L, L = bldL (tmF (l ++ [((tm, lv, src, txt) : RecC)])) (l.length + 1) := ⟨_, rfl⟩
  rw [← hLX] at hg1 hlX hp1
  rw [← hLY] at hg2 hlY hp2
  obtain ⟨X, hX⟩ : ∃ X, X = bldT (tmF l) l.length := ⟨_, rfl⟩
  obtain ⟨Y, hY⟩ : ∃ Y, Y = bldT (tmF (l ++ [((tm, lv, src, txt) : RecC)])) (l.length + 1) := ⟨_, rfl⟩
  obtain ⟨fs, hfs⟩ : ∃ f, f = lsF (tmF l) l.length := ⟨_, rfl⟩
  obtain ⟨TR, hTR⟩ : ∃ T, T = trm ((tm, lv, src, txt) : RecC) := ⟨_, rfl⟩
  rw [← hX] at hXY hg1 hbX hlX hp1
  rw [← hY] at hXY hg2 hbY hlY hp2
  rw [← hfs] at hfl hg1 hg2
  rw [← hTR] at hg2 htd htl
  simp only [← hfs] at hXY
  rw [hw2] at hbY
  have htw : RecC.w ((tm, lv, src, txt) : RecC) = 16 + src.length + txt.length := rfl
  rw [htw] at htl htd
  rw [hw2] at hp2
  clear hls hX hY hfs hTR hLX hLY hw2 hrc2 htw
  refine Does.law (args := [.slice A0 l.length c0, .agg #[.int .u64 tm, .int .u8 (lv.toNat : Int), .string ⟨src.toArray⟩, .string ⟨txt.toArray⟩]]) ?_
  refine fn_walk Try.func4 134 rfl rfl rfl [(0, .slice A0 l.length c0), (1, .agg #[.int .u64 tm, .int .u8 (lv.toNat : Int), .string ⟨src.toArray⟩, .string ⟨txt.toArray⟩])] ⟨⟨rfl, rfl⟩, ⟨rfl, rfl⟩, trivial⟩ ?_
  refine vc_seq ?_
  refine vc_region ?_
  refine vl_eff (eff_box rfl rfl) rfl ?_
  rintro _ _ ⟨g3, rfl, rfl⟩
  refine vl_det (det_assign rfl) rfl ?_
  refine vl_end [(0, _), (3, _)] ⟨rfl, rfl, trivial⟩ ?_
  refine then_next ?_
  refine vc_seq ?_
  refine vc_seq ?_
  refine vc_region ?_
  refine vl_call co9 rfl (alive_d) rfl ?_
  rintro _ _ ⟨rfl, hLL⟩
  obtain rfl := hLL.symm
  refine vl_det (det_not_t rfl) rfl ?_
  refine vl_end [(0, _), (3, _), (13, _)] ⟨rfl, rfl, rfl, trivial⟩ ?_
  refine then_next ?_
  refine vc_cond_f rfl ?_
  refine vc_skip ?_
  refine then_next ?_
  refine vc_seq ?_
  refine vc_seq ?_
  refine vc_region ?_
  refine vl_det (det_move rfl) rfl ?_
  refine vl_call co10 rfl (great_d l (by first | (exact Bor.own (by repeat (first | exact List.Mem.head _ | apply List.Mem.tail))) | (repeat (first | assumption | apply Bor.cons))) 40 3000 (by omega) (by omega)) rfl ?_
  rintro _ _ ⟨bg, rfl, hLL, hbg⟩
  obtain rfl := hLL.symm
  refine vl_det (det_move rfl) rfl ?_
  refine vl_guard rfl rfl rfl (fun h16 => ?_) (fun h16 => ?_)
  · skip
    refine vl_det (det_fieldAddr_ Try.underlying35 rfl (by kernel_rfl) rfl rfl) rfl ?_
    refine vl_guard_t rfl rfl ?_
    refine vl_det (det_load_blk (by kernel_rfl) rfl (by repeat (first | exact .hd | apply Sel.tl)) rfl) rfl ?_
    refine vl_guard_t rfl rfl ?_
    refine vl_det (det_len_s Try.underlying9 rfl) rfl ?_
    refine vl_guard_t rfl rfl ?_
    refine vl_det (det_gtr rfl rfl) rfl ?_
    refine vl_det (det_pick_f rfl rfl) rfl ?_
    refine vl_det (det_move rfl) rfl ?_
    refine vl_guardn rfl rfl rfl (fun h22 => ?_) (fun h22 => ?_)
    · skip
      refine vl_det (det_fieldAddr_ Try.underlying35 rfl (by kernel_rfl) rfl rfl) rfl ?_
      refine vl_guard_t rfl rfl ?_
      refine vl_det (det_load_blk (by kernel_rfl) rfl (by repeat (first | exact .hd | apply Sel.tl)) rfl) rfl ?_
      refine vl_guard_t rfl rfl ?_
      refine vl_det (det_len_s Try.underlying9 rfl) rfl ?_
      refine vl_guard_t rfl rfl ?_
      refine vl_det (det_gtr rfl rfl) rfl ?_
      refine vl_det (det_pick_f rfl rfl) rfl ?_
      refine vl_end [(0, _), (3, _), (27, _)] ⟨rfl, rfl, rfl, trivial⟩ ?_
      refine then_next ?_
      refine vc_decideU rfl (fun h27 => ?_) (fun h27 => ?_)
      · skip
        refine vc_seq ?_
        refine vc_region ?_
        refine vl_det (det_assign rfl) rfl ?_
        refine vl_end [(4, _)] ⟨rfl, trivial⟩ ?_
        refine then_next ?_
        refine vc_ret ?_
        refine then_ret ?_
        refine ret_wk (L' := []) (wk_drop _) ?_
        refine ret1 rfl rfl ?_
        first | rfl | (rw [decide_eq_true (by omega)])
      · skip
        obtain ⟨hb40, hbw⟩ := hbg (by simpa using h16)
        refine vc_skip ?_
        refine then_next ?_
        refine vc_seq ?_
        refine vc_region ?_
        refine vl_det (det_assign rfl) rfl ?_
        refine vl_end [(0, _), (3, _), (5, _)] ⟨rfl, rfl, rfl, trivial⟩ ?_
        refine then_next ?_
        refine vc_seqJ (fun zf zL => ∃ (A33 : Option Addr) (c33 : Nat), Sub zf [(0, .slice A0 l.length c0), (3, .pointer (some ⟨g3, 0, none⟩)), (5, .slice A33 (l.length + 1) c33)] ∧ Wk zL (.own 35 4 A33 (l.length + 1) c33 (recs l ++ [.int .u64 tm, .int .u8 (lv.toNat : Int), .string ⟨src.toArray⟩, .string ⟨txt.toArray⟩]) :: .blk g3 35 [.int .u64 tm, .int .u8 (lv.toNat : Int), .string ⟨src.toArray⟩, .string ⟨txt.toArray⟩] :: [])) ?_ ?_
        · skip
          refine vh_region (S := .blk g3 35 [.int .u64 tm, .int .u8 (lv.toNat : Int), .string ⟨src.toArray⟩, .string ⟨txt.toArray⟩] :: []) (by kernel_rfl) (by repeat (first | exact List.Sublist.refl _ | exact List.nil_sublist _ | apply List.Sublist.cons_cons | apply List.Sublist.cons)) ?_
          refine vh_take 0 rfl (by kernel_rfl) (by kernel_rfl) (by kernel_rfl) (det_move rfl) rfl ?_
          refine vh_take 1 rfl (by kernel_rfl) (by kernel_rfl) (by kernel_rfl) (det_move rfl) rfl ?_
          refine vh_take 3 rfl (by kernel_rfl) (by kernel_rfl) (by kernel_rfl) (det_load_whole 4 (by kernel_rfl) rfl (by repeat (first | exact .hd | apply Sel.tl)) (by first | rfl | (simp; omega) | (simp [*]; done))) rfl ?_
          refine vh_two 2 4 (by kernel_rfl) ?_ ?_
          · skip
            refine st_eff rfl .no (eff_app_nil slT22 rfl rfl (by first | (exact Bor.own (by repeat (first | exact List.Mem.head _ | apply List.Mem.tail))) | (repeat (first | assumption | apply Bor.cons))) (by first | exact bv_one _ | exact strs_one _ | exact ints_one _ _ | (simp; done) | (simp [Value.oneCell']; done) | assumption) (by omega) (by omega)) rfl (by rintro _ _ ⟨A30, c30, rfl, rfl⟩; exact (by repeat (first | exact List.Sublist.refl _ | exact List.nil_sublist _ | apply List.Sublist.cons_cons | apply List.Sublist.cons))) ?_
            rintro _ _ ⟨A30, c30, rfl, rfl⟩
            refine vh_one 4 (by kernel_rfl) ?_
            refine st_eff rfl .no (eff_build1s (us := [.int .u64 tm, .int .u8 (lv.toNat : Int), .string ⟨src.toArray⟩, .string ⟨txt.toArray⟩]) slT22 rfl rfl rfl (by omega)) rfl (by rintro _ _ ⟨A32, rfl, rfl⟩; exact (by repeat (first | exact List.Sublist.refl _ | exact List.nil_sublist _ | apply List.Sublist.cons_cons | apply List.Sublist.cons))) ?_
            rintro _ _ ⟨A32, rfl, rfl⟩
            refine vh_one 5 (by kernel_rfl) ?_
            refine st_eff rfl .no (eff_app slT22 rfl (by repeat (first | exact .hd | apply Sel.tl)) rfl (by first | (exact Bor.own (by repeat (first | exact List.Mem.head _ | apply List.Mem.tail))) | (repeat (first | assumption | apply Bor.cons))) (by first | exact bv_one _ | exact strs_one _ | exact ints_one _ _ | (simp; done) | (simp [Value.oneCell']; done) | assumption) (by omega) (by omega)) rfl (by rintro _ _ ⟨A33, c33, rfl, rfl⟩; exact (by repeat (first | exact List.Sublist.refl _ | exact List.nil_sublist _ | apply List.Sublist.cons_cons | apply List.Sublist.cons))) ?_
            rintro _ _ ⟨A33, c33, rfl, rfl⟩
            refine vh_take 6 rfl (by kernel_rfl) (by kernel_rfl) (by kernel_rfl) (det_assign rfl) rfl ?_
            refine vh_done [(0, _), (3, _), (5, _)] ⟨rfl, rfl, rfl, trivial⟩ (by kernel_rfl) ?_
            exact in_join ⟨A33, c33, ⟨(by first | rfl | exact int_to (by omega) | exact sl_to (by omega)), (by first | rfl | exact int_to (by omega) | exact sl_to (by omega)), (by first | rfl | exact int_to (by omega) | exact sl_to (by omega)), trivial⟩, .skip (.refl _)⟩
          · skip
            refine st_eff rfl .no (eff_build1s (us := [.int .u64 tm, .int .u8 (lv.toNat : Int), .string ⟨src.toArray⟩, .string ⟨txt.toArray⟩]) slT22 rfl rfl rfl (by omega)) rfl (by rintro _ _ ⟨A32, rfl, rfl⟩; exact (by repeat (first | exact List.Sublist.refl _ | exact List.nil_sublist _ | apply List.Sublist.cons_cons | apply List.Sublist.cons))) ?_
            rintro _ _ ⟨A32, rfl, rfl⟩
            refine vh_one 2 (by kernel_rfl) ?_
            refine st_eff rfl .no (eff_app_nil slT22 rfl rfl (by first | (exact Bor.own (by repeat (first | exact List.Mem.head _ | apply List.Mem.tail))) | (repeat (first | assumption | apply Bor.cons))) (by first | exact bv_one _ | exact strs_one _ | exact ints_one _ _ | (simp; done) | (simp [Value.oneCell']; done) | assumption) (by omega) (by omega)) rfl (by rintro _ _ ⟨A30, c30, rfl, rfl⟩; exact (by repeat (first | exact List.Sublist.refl _ | exact List.nil_sublist _ | apply List.Sublist.cons_cons | apply List.Sublist.cons))) ?_
            rintro _ _ ⟨A30, c30, rfl, rfl⟩
            refine vh_one 5 (by kernel_rfl) ?_
            refine st_eff rfl .no (eff_app slT22 rfl (by repeat (first | exact .hd | apply Sel.tl)) rfl (by first | (exact Bor.own (by repeat (first | exact List.Mem.head _ | apply List.Mem.tail))) | (repeat (first | assumption | apply Bor.cons))) (by first | exact bv_one _ | exact strs_one _ | exact ints_one _ _ | (simp; done) | (simp [Value.oneCell']; done) | assumption) (by omega) (by omega)) rfl (by rintro _ _ ⟨A33, c33, rfl, rfl⟩; exact (by repeat (first | exact List.Sublist.refl _ | exact List.nil_sublist _ | apply List.Sublist.cons_cons | apply List.Sublist.cons))) ?_
            rintro _ _ ⟨A33, c33, rfl, rfl⟩
            refine vh_take 6 rfl (by kernel_rfl) (by kernel_rfl) (by kernel_rfl) (det_assign rfl) rfl ?_
            refine vh_done [(0, _), (3, _), (5, _)] ⟨rfl, rfl, rfl, trivial⟩ (by kernel_rfl) ?_
            exact in_join ⟨A33, c33, ⟨(by first | rfl | exact int_to (by omega) | exact sl_to (by omega)), (by first | rfl | exact int_to (by omega) | exact sl_to (by omega)), (by first | rfl | exact int_to (by omega) | exact sl_to (by omega)), trivial⟩, .cons (.skip (.refl _))⟩
        · rintro _ _ ⟨A33, c33, hs, hp⟩
          refine vc_weaken _ hs (vc_wk hp ?_)
          clear hs hp
          refine vc_seq ?_
          refine vc_region ?_
          refine vl_det (det_move rfl) rfl ?_
          refine vl_call co12 rfl (hp1 _ (by first | (exact Bor.own (by repeat (first | exact List.Mem.head _ | apply List.Mem.tail))) | (repeat (first | assumption | apply Bor.cons))) (by omega)) rfl ?_
          rintro _ _ ⟨A1, c1, A2, c2, GX, rfl, hLL, hi1⟩
          obtain rfl := hLL.symm
          refine vl_det (det_move rfl) rfl ?_
          refine vl_call co12 rfl (hp2 _ _ _ (Bor.own (by repeat (first | exact List.Mem.head _ | apply List.mem_append_right | apply List.Mem.tail))) (by omega)) rfl ?_
          rintro _ _ ⟨A3, c3, A4, c4, GY, rfl, hLL, hi2⟩
          obtain rfl := hLL.symm
          have hXn : (toI GX).length = X.length := by have := congrArg List.length hi1; rw [hlX] at this; rw [toI_len]; simpa using this
          have hYn : (toI GY).length = Y.length := by have := congrArg List.length hi2; rw [hlY] at this; rw [toI_len]; simpa using this
          have hgX := hg1 GX hi1
          have hgY := hg2 GY hi2
          obtain ⟨M, hM, hY1, hY2, hY3, hX1, hX2, hX3⟩ := bld_two (B := w.heap.size) (w0 := w) X Y A1 A2 A3 A4 c1 c2 c3 c4 GX GY (.own 35 4 A33 (l.length + 1) c33 (recs l ++ [.int .u64 tm, .int .u8 (lv.toNat : Int), .string ⟨src.toArray⟩, .string ⟨txt.toArray⟩])) (.blk g3 35 [.int .u64 tm, .int .u8 (lv.toNat : Int), .string ⟨src.toArray⟩, .string ⟨txt.toArray⟩])
          rw [hM]
          refine vl_eff (eff_alloc_z (zv := (.agg #[.slice none 0 0, .slice none 0 0])) (by kernel_rfl) rfl) rfl ?_
          rintro _ _ ⟨g6, rfl, rfl⟩
          refine vl_eff (eff_alloc_z (zv := (.agg #[.slice none 0 0, .slice none 0 0])) (by kernel_rfl) rfl) rfl ?_
          rintro _ _ ⟨g7, rfl, rfl⟩
          refine vl_eff0 (eff_store_whole 2 (by kernel_rfl) rfl rfl (by first | exact bv_one _ | exact strs_one _ | exact ints_one _ _ | (simp; done) | (simp [Value.oneCell']; done) | assumption) (by repeat (first | exact .hd | apply Sel.tl)) (by first | rfl | (simp; omega) | (simp [*]; done)) (by first | rfl | (simp; omega) | (simp [*]; done))) ?_
          rintro _ _ rfl
          refine vl_eff0 (eff_store_whole 2 (by kernel_rfl) rfl rfl (by first | exact bv_one _ | exact strs_one _ | exact ints_one _ _ | (simp; done) | (simp [Value.oneCell']; done) | assumption) (by repeat (first | exact .hd | apply Sel.tl)) (by first | rfl | (simp; omega) | (simp [*]; done)) (by first | rfl | (simp; omega) | (simp [*]; done))) ?_
          rintro _ _ rfl
          refine vl_end [(0, _), (3, _), (6, _), (7, _)] ⟨rfl, rfl, rfl, rfl, trivial⟩ ?_
          refine then_next ?_
          refine vc_seq ?_
          clear hLL hM
          refine vc_perm (back2 _ _ _ _) ?_
          refine vc_region ?_
          refine vl_det (det_load_whole 4 (by kernel_rfl) rfl (by repeat (first | exact .hd | apply Sel.tl)) (by first | rfl | (simp; omega) | (simp [*]; done))) rfl ?_
          refine vl_call co14 rfl (htd _ (by omega)) rfl ?_
          rintro _ _ ⟨A39, c39, rfl, hLL⟩
          obtain rfl := hLL.symm
          refine vl_det (det_assign rfl) rfl ?_
          refine vl_end [(0, _), (6, _), (7, _), (8, _)] ⟨rfl, rfl, rfl, rfl, trivial⟩ ?_
          refine then_next ?_
          refine vc_seq ?_
          refine vc_region ?_
          refine vl_det (det_assign rfl) rfl ?_
          refine vl_end [(0, _), (6, _), (7, _), (8, _), (9, _)] ⟨rfl, rfl, rfl, rfl, rfl, trivial⟩ ?_
          refine then_next ?_
          refine vc_seq ?_
          refine vc_seq ?_
          refine vc_region ?_
          refine vl_det (det_assign rfl) rfl ?_
          refine vl_end [(0, _), (6, _), (7, _), (8, _), (9, _), (10, _)] ⟨rfl, rfl, rfl, rfl, rfl, rfl, trivial⟩ ?_
          refine then_next ?_
          refine vc_block ?_
          refine vc_loopJ (fun zf zL zm => ∃ (k nn : Nat), (k ≤ Y.length ∧ nn = ((Y.take k).filter fun s => decide (fs s ≠ [])).length) ∧ Y.length - k = zm ∧ Sub zf [(0, .slice A0 l.length c0), (6, .pointer (some ⟨g6, 0, none⟩)), (7, .pointer (some ⟨g7, 0, none⟩)), (8, .slice A39 TR.length c39), (9, .int .i64 nn), (10, .int .i64 k)] ∧ Wk zL (.own 9 1 A39 TR.length c39 (strs TR) :: .blk g3 35 [.int .u64 tm, .int .u8 (lv.toNat : Int), .string ⟨src.toArray⟩, .string ⟨txt.toArray⟩] :: .blk g7 29 [.slice A3 Y.length c3, .slice A4 Y.length c4] :: .blk g6 29 [.slice A1 X.length c1, .slice A2 X.length c2] :: M)) _ ⟨0, 0, ⟨Nat.zero_le _, by simp⟩, rfl, ⟨(by first | rfl | exact int_to (by omega) | exact sl_to (by omega)), (by first | rfl | exact int_to (by omega) | exact sl_to (by omega)), (by first | rfl | exact int_to (by omega) | exact sl_to (by omega)), (by first | rfl | exact int_to (by omega) | exact sl_to (by omega)), (by first | rfl | exact int_to (by omega) | exact sl_to (by omega)), (by first | rfl | exact int_to (by omega) | exact sl_to (by omega)), trivial⟩, .refl _⟩ ?_
          rintro _ _ _ ⟨k, nn, ⟨hk, hnn⟩, rfl, hs, hp⟩
          refine vc_weaken _ hs (vc_wk hp ?_)
          clear hs hp
          refine vc_seq ?_
          refine vc_seq ?_
          refine vc_region ?_
          refine vl_cut 12 51 [(0, _), (6, _), (7, _), (8, _), (9, _), (10, _)] ((k : Int) < Y.length) ⟨rfl, rfl, rfl, rfl, rfl, rfl, trivial⟩ ?_ ?_
          · skip
            refine vl_det (det_move rfl) rfl ?_
            refine vl_det (det_fieldAddr_ Try.underlying29 rfl (by kernel_rfl) rfl rfl) rfl ?_
            refine vl_det (det_load_blk (by kernel_rfl) rfl (by repeat (first | exact .hd | apply Sel.tl)) rfl) rfl ?_
            refine vl_det (det_len_sl Try.underlying26 rfl) rfl ?_
            refine vl_det (det_lss rfl rfl) rfl ?_
            refine vl_det (det_move rfl) rfl ?_
            refine vl_guardp rfl rfl rfl (fun h45 => ?_) (fun h45 => ?_)
            · skip
              refine vl_det (det_move rfl) rfl ?_
              refine vl_guard_t rfl rfl ?_
              refine vl_det (det_fieldAddr_ Try.underlying29 rfl (by kernel_rfl) rfl rfl) rfl ?_
              refine vl_guard_t rfl rfl ?_
              refine vl_det (det_load_blk (by kernel_rfl) rfl (by repeat (first | exact .hd | apply Sel.tl)) rfl) rfl ?_
              refine vl_guard_t rfl rfl ?_
              refine vl_det (det_len_sl Try.underlying27 rfl) rfl ?_
              refine vl_guard_t rfl rfl ?_
              refine vl_det (det_lss rfl rfl) rfl ?_
              refine vl_det (det_pick_t rfl rfl) rfl ?_
              exact vl_cut_end ⟨rfl, rfl, rfl, rfl, rfl, rfl, trivial⟩ (by first | rfl | exact bool_to_t (by first | omega | simp_all) | exact bool_to_f (by first | omega | simp_all) | exact bool_to (by first | omega | simp_all) | exact bool_to_b (by first | omega | simp_all))
            · skip
              refine vl_guard_f rfl rfl rfl rfl ?_
              refine vl_guard_f rfl rfl rfl rfl ?_
              refine vl_guard_f rfl rfl rfl rfl ?_
              refine vl_guard_f rfl rfl rfl rfl ?_
              refine vl_det (det_pick_f rfl rfl) rfl ?_
              exact vl_cut_end ⟨rfl, rfl, rfl, rfl, rfl, rfl, trivial⟩ (by first | rfl | exact bool_to_t (by first | omega | simp_all) | exact bool_to_f (by first | omega | simp_all) | exact bool_to (by first | omega | simp_all) | exact bool_to_b (by first | omega | simp_all))
          · skip
            refine vl_end [(0, _), (6, _), (7, _), (8, _), (9, _), (10, _), (51, _)] ⟨rfl, rfl, rfl, rfl, rfl, rfl, rfl, trivial⟩ ?_
            refine then_next ?_
            refine vc_decideU rfl (fun h51 => ?_) (fun h51 => ?_)
            · skip
              have hkY : k < Y.length := by omega
              obtain ⟨za, zc, zz, hz⟩ : ∃ za zc zz, (toI GY).getD k iNil = (za, zc, zz) := ⟨_, _, _, rfl⟩
              have hgk := hgY k hkY
              rw [hz] at hgk
              have hzb : Bor w.heap.size w M 1 (.slice za zz.length zc) zz.length (ints .i64 zz) := by have := hY3.get (k := k) (by omega); rwa [hz] at this
              have hig : ((toI GY).map iVal)[k * 1]? = some (.slice za zz.length zc) := by have := iget (LL := toI GY) (k := k) (by omega); rwa [hz] at this
              obtain ⟨zl, hzl⟩ : ∃ zl, zl = (fs (Y.getD k [])).map (fun (n : Nat) => (n : Int)) := ⟨_, rfl⟩
              have hzn : zl.length ≤ l.length := by rw [hzl, List.length_map]; exact hfl _
              have hze : zl.length = (fs (Y.getD k [])).length := by rw [hzl, List.length_map]
              refine vc_skip ?_
              refine then_next ?_
              refine vc_seq ?_
              refine vc_block ?_
              refine vc_seq ?_
              refine vc_region ?_
              refine vl_det (det_fieldAddr_ Try.underlying29 rfl (by kernel_rfl) rfl rfl) rfl ?_
              refine vl_det (det_load_blk (by kernel_rfl) rfl (by repeat (first | exact .hd | apply Sel.tl)) rfl) rfl ?_
              refine vl_det (det_move rfl) rfl ?_
              refine vl_det (det_indexAddr (size := 1) Try.underlying27 (by kernel_rfl) rfl rfl rfl (by omega) (by first | (exact Bor.own (by repeat (first | exact List.Mem.head _ | apply List.Mem.tail))) | (repeat (first | assumption | apply Bor.cons)))) rfl ?_
              refine vl_det (det_load_row (by kernel_rfl) rfl (by first | (exact Bor.own (by repeat (first | exact List.Mem.head _ | apply List.Mem.tail))) | (repeat (first | assumption | apply Bor.cons))) (by omega) hig) rfl ?_
              refine vl_det (det_assign rfl) rfl ?_
              refine vl_end [(0, _), (6, _), (7, _), (8, _), (9, _), (10, _), (11, _)] ⟨rfl, rfl, rfl, rfl, rfl, rfl, rfl, trivial⟩ ?_
              refine then_next ?_
              refine vc_seq ?_
              refine vc_seq ?_
              refine vc_region ?_
              refine vl_det (det_move rfl) rfl ?_
              refine vl_det (det_fieldAddr_ Try.underlying29 rfl (by kernel_rfl) rfl rfl) rfl ?_
              refine vl_det (det_load_blk (by kernel_rfl) rfl (by repeat (first | exact .hd | apply Sel.tl)) rfl) rfl ?_
              refine vl_det (det_move rfl) rfl ?_
              refine vl_det (det_indexAddr (size := 1) Try.underlying26 (by kernel_rfl) rfl rfl rfl (by omega) (by first | (exact Bor.own (by repeat (first | exact List.Mem.head _ | apply List.Mem.tail))) | (repeat (first | assumption | apply Bor.cons)))) rfl ?_
              refine vl_det (det_load_str (by kernel_rfl) rfl (by first | (exact Bor.own (by repeat (first | exact List.Mem.head _ | apply List.Mem.tail))) | (repeat (first | assumption | apply Bor.cons))) (by omega)) rfl ?_
              refine vl_call co15 rfl (has15_d (Y.getD k []) (by first | (exact Bor.own (by repeat (first | exact List.Mem.head _ | apply List.Mem.tail))) | (repeat (first | assumption | apply Bor.cons))) (by omega)) rfl ?_
              rintro _ _ ⟨rfl, hLL⟩
              obtain rfl := hLL.symm
              refine vl_end [(0, _), (6, _), (7, _), (8, _), (9, _), (10, _), (11, _), (65, _)] ⟨rfl, rfl, rfl, rfl, rfl, rfl, rfl, rfl, trivial⟩ ?_
              refine then_next ?_
              refine vc_decideU rfl (fun h65 => ?_) (fun h65 => ?_)
              · skip
                obtain rfl : zz = zl ++ [(l.length : Int)] := by rw [show zz = _ from hgk, if_pos h65, List.map_append, ← hzl]; rfl
                have hzz : (zl ++ [(l.length : Int)]).length = zl.length + 1 := by simp
                have hlast : (ints .i64 (zl ++ [(l.length : Int)]))[zl.length * 1]? = some (.int .i64 (l.length : Int)) := by simp [ints]
                refine vc_seq ?_
                refine vc_seq ?_
                refine vc_region ?_
                refine vl_det (det_move rfl) rfl ?_
                refine vl_det (det_len_sl Try.underlying37 rfl) rfl ?_
                refine vl_det (det_eql rfl rfl) rfl ?_
                refine vl_det (det_move rfl) rfl ?_
                refine vl_guardn rfl rfl rfl (fun h69 => ?_) (fun h69 => ?_)
                · skip
                  refine vl_det (det_move rfl) rfl ?_
                  refine vl_guard_t rfl rfl ?_
                  refine vl_det (det_move rfl) rfl ?_
                  refine vl_guard_t rfl rfl ?_
                  refine vl_det (det_len_sl Try.underlying37 rfl) rfl ?_
                  refine vl_guard_t rfl rfl ?_
                  refine vl_det (det_sub rfl rfl (r := (zl.length : Int)) ((w_i64 (by omega) (by omega)).trans (by omega))) rfl ?_
                  refine vl_guard_t rfl rfl ?_
                  refine vl_det (det_indexAddr (size := 1) Try.underlying37 (by kernel_rfl) rfl rfl rfl (by omega) (by first | (exact Bor.own (by repeat (first | exact List.Mem.head _ | apply List.Mem.tail))) | (repeat (first | assumption | apply Bor.cons)))) rfl ?_
                  refine vl_guard_t rfl rfl ?_
                  refine vl_det (det_load_row (by kernel_rfl) rfl (by first | (exact Bor.own (by repeat (first | exact List.Mem.head _ | apply List.Mem.tail))) | (repeat (first | assumption | apply Bor.cons))) (by omega) hlast) rfl ?_
                  refine vl_guard_t rfl rfl ?_
                  refine vl_det (det_move rfl) rfl ?_
                  refine vl_guard_t rfl rfl ?_
                  refine vl_det (det_len_sl Try.underlying22 rfl) rfl ?_
                  refine vl_guard_t rfl rfl ?_
                  refine vl_det (det_neq rfl rfl) rfl ?_
                  refine vl_det (det_pick_f rfl rfl) rfl ?_
                  refine vl_end [(0, _), (6, _), (7, _), (8, _), (9, _), (10, _), (11, _), (79, _)] ⟨rfl, rfl, rfl, rfl, rfl, rfl, rfl, rfl, trivial⟩ ?_
                  refine then_next ?_
                  refine vc_decideU rfl (fun h79 => ?_) (fun h79 => ?_)
                  · skip
                    exfalso; first | exact h79 rfl | omega
                  · skip
                    refine vc_skip ?_
                    refine then_next ?_
                    refine vc_bor hzb.cons.cons.cons.cons fun hcap _ => ?_
                    have hzb2 : Bor w.heap.size w M 1 (.slice za zl.length zc) zl.length (ints .i64 zl) := by have := hzb.head_ (k := zl.length) (by omega); rwa [show (ints .i64 (zl ++ [(l.length : Int)])).take (zl.length * 1) = ints .i64 zl by simp [ints]] at this
                    refine vc_region ?_
                    refine vl_det (det_move rfl) rfl ?_
                    refine vl_det (det_move rfl) rfl ?_
                    refine vl_det (det_len_sl Try.underlying37 rfl) rfl ?_
                    refine vl_det (det_sub rfl rfl (r := (zl.length : Int)) ((w_i64 (by omega) (by omega)).trans (by omega))) rfl ?_
                    refine vl_det (det_slice_hi (size := 1) Try.underlying37 (by kernel_rfl) rfl rfl rfl (by omega)) rfl ?_
                    refine vl_det (det_assign rfl) rfl ?_
                    refine vl_end [(0, _), (6, _), (7, _), (8, _), (9, _), (10, _), (11, _)] ⟨rfl, rfl, rfl, rfl, rfl, rfl, rfl, trivial⟩ ?_
                    refine then_next ?_
                    refine vc_seq ?_
                    refine vc_seq ?_
                    refine vc_region ?_
                    refine vl_det (det_move rfl) rfl ?_
                    refine vl_det (det_len_sl Try.underlying37 rfl) rfl ?_
                    refine vl_det (det_eql rfl rfl) rfl ?_
                    refine vl_end [(0, _), (6, _), (7, _), (8, _), (9, _), (10, _), (11, _), (87, _)] ⟨rfl, rfl, rfl, rfl, rfl, rfl, rfl, rfl, trivial⟩ ?_
                    refine then_next ?_
                    refine vc_decideU rfl (fun h87 => ?_) (fun h87 => ?_)
                    · skip
                      refine vc_exit ?_
                      refine then_exit ?_
                      refine in_eq ?_
                      refine then_next ?_
                      refine vc_region ?_
                      refine vl_det (det_move rfl) rfl ?_
                      refine vl_det (det_add rfl rfl (w_i64 (by omega) (by omega))) rfl ?_
                      refine vl_det (det_assign rfl) rfl ?_
                      refine vl_end [(0, _), (6, _), (7, _), (8, _), (9, _), (10, _)] ⟨rfl, rfl, rfl, rfl, rfl, rfl, trivial⟩ ?_
                      refine in_loop_ ⟨_, by omega, k + 1, nn, ⟨by omega, by rw [fil_skip hkY (decide_eq_false (fun e => e (List.eq_nil_of_length_eq_zero (by omega)))), ← hnn]⟩, rfl, ⟨(by first | rfl | exact int_to (by omega) | exact sl_to (by omega)), (by first | rfl | exact int_to (by omega) | exact sl_to (by omega)), (by first | rfl | exact int_to (by omega) | exact sl_to (by omega)), (by first | rfl | exact int_to (by omega) | exact sl_to (by omega)), (by first | rfl | exact int_to (by omega) | exact sl_to (by omega)), (by first | rfl | exact int_to (by omega) | exact sl_to (by omega)), trivial⟩, .refl _⟩
                    · skip
                      have hP : decide (fs (Y.getD k []) ≠ []) = true := decide_eq_true fun e => h87 (by rw [hze, e]; rfl)
                      obtain ⟨hf1, hf2, hf3⟩ := fil_get (P := fun s => decide (fs s ≠ [])) hkY hP
                      rw [← hXY, ← hnn] at hf1 hf2
                      rw [← hnn] at hf3
                      obtain ⟨ya, yc, yy, hy⟩ : ∃ ya yc yy, (toI GX).getD nn iNil = (ya, yc, yy) := ⟨_, _, _, rfl⟩
                      have hgx := hgX nn hf1
                      rw [hy, hf2, ← hzl] at hgx
                      obtain rfl : yy = zl := hgx
                      have hyb : Bor w.heap.size w M 1 (.slice ya yy.length yc) yy.length (ints .i64 yy) := by have := hX3.get (k := nn) (by omega); rwa [hy] at this
                      have hig2 : ((toI GX).map iVal)[nn * 1]? = some (.slice ya yy.length yc) := by have := iget (LL := toI GX) (k := nn) (by omega); rwa [hy] at this
                      refine vc_skip ?_
                      refine then_next ?_
                      refine vc_seq ?_
                      refine vc_seq ?_
                      refine vh_region (S := .own 9 1 A39 TR.length c39 (strs TR) :: .blk g3 35 [.int .u64 tm, .int .u8 (lv.toNat : Int), .string ⟨src.toArray⟩, .string ⟨txt.toArray⟩] :: .blk g7 29 [.slice A3 Y.length c3, .slice A4 Y.length c4] :: .blk g6 29 [.slice A1 X.length c1, .slice A2 X.length c2] :: M) (by kernel_rfl) (by repeat (first | exact List.Sublist.refl _ | exact List.nil_sublist _ | apply List.Sublist.cons_cons | apply List.Sublist.cons)) ?_
                      refine vh_take 0 rfl (by kernel_rfl) (by kernel_rfl) (by kernel_rfl) (det_move rfl) rfl ?_
                      refine vh_take 1 rfl (by kernel_rfl) (by kernel_rfl) (by kernel_rfl) (det_fieldAddr_ Try.underlying29 rfl (by kernel_rfl) rfl rfl) rfl ?_
                      refine vh_take 2 rfl (by kernel_rfl) (by kernel_rfl) (by kernel_rfl) (det_load_blk (by kernel_rfl) rfl (by repeat (first | exact .hd | apply Sel.tl)) rfl) rfl ?_
                      refine vh_take 3 rfl (by kernel_rfl) (by kernel_rfl) (by kernel_rfl) (det_len_sl Try.underlying26 rfl) rfl ?_
                      refine vh_take 4 rfl (by kernel_rfl) (by kernel_rfl) (by kernel_rfl) (det_geq rfl rfl) rfl ?_
                      refine vh_take 5 rfl (by kernel_rfl) (by kernel_rfl) (by kernel_rfl) (det_move rfl) rfl ?_
                      refine vh_split 93 rfl (fun h93 => ?_) (fun h93 => ?_)
                      · skip
                        exfalso; omega
                      · skip
                        refine vh_take_g 6 rfl (by kernel_rfl) (by kernel_rfl) (by kernel_rfl) rfl rfl (det_move rfl) rfl ?_
                        refine vh_take_g 7 rfl (by kernel_rfl) (by kernel_rfl) (by kernel_rfl) rfl rfl (det_fieldAddr_ Try.underlying29 rfl (by kernel_rfl) rfl rfl) rfl ?_
                        refine vh_take_g 8 rfl (by kernel_rfl) (by kernel_rfl) (by kernel_rfl) rfl rfl (det_load_blk (by kernel_rfl) rfl (by repeat (first | exact .hd | apply Sel.tl)) rfl) rfl ?_
                        refine vh_take_g 9 rfl (by kernel_rfl) (by kernel_rfl) (by kernel_rfl) rfl rfl (det_len_sl Try.underlying27 rfl) rfl ?_
                        refine vh_take_g 10 rfl (by kernel_rfl) (by kernel_rfl) (by kernel_rfl) rfl rfl (det_geq rfl rfl) rfl ?_
                        refine vh_take 11 rfl (by kernel_rfl) (by kernel_rfl) (by kernel_rfl) (det_pick_f rfl rfl) rfl ?_
                        refine vh_take 12 rfl (by kernel_rfl) (by kernel_rfl) (by kernel_rfl) (det_move rfl) rfl ?_
                        refine vh_split 100 rfl (fun h100 => ?_) (fun h100 => ?_)
                        · skip
                          exfalso; omega
                        · skip
                          refine vh_take_g 13 rfl (by kernel_rfl) (by kernel_rfl) (by kernel_rfl) rfl rfl (det_fieldAddr_ Try.underlying29 rfl (by kernel_rfl) rfl rfl) rfl ?_
                          refine vh_take_g 14 rfl (by kernel_rfl) (by kernel_rfl) (by kernel_rfl) rfl rfl (det_load_blk (by kernel_rfl) rfl (by repeat (first | exact .hd | apply Sel.tl)) rfl) rfl ?_
                          refine vh_take_g 15 rfl (by kernel_rfl) (by kernel_rfl) (by kernel_rfl) rfl rfl (det_move rfl) rfl ?_
                          refine vh_take_g 16 rfl (by kernel_rfl) (by kernel_rfl) (by kernel_rfl) rfl rfl (det_indexAddr (size := 1) Try.underlying26 (by kernel_rfl) rfl rfl rfl (by omega) (by first | (exact Bor.own (by repeat (first | exact List.Mem.head _ | apply List.Mem.tail))) | (repeat (first | assumption | apply Bor.cons)))) rfl ?_
                          refine vh_take_g 17 rfl (by kernel_rfl) (by kernel_rfl) (by kernel_rfl) rfl rfl (det_load_str (by kernel_rfl) rfl (by first | (exact Bor.own (by repeat (first | exact List.Mem.head _ | apply List.Mem.tail))) | (repeat (first | assumption | apply Bor.cons))) (by omega)) rfl ?_
                          refine vh_take_g 18 rfl (by kernel_rfl) (by kernel_rfl) (by kernel_rfl) rfl rfl (det_fieldAddr_ Try.underlying29 rfl (by kernel_rfl) rfl rfl) rfl ?_
                          refine vh_take_g 19 rfl (by kernel_rfl) (by kernel_rfl) (by kernel_rfl) rfl rfl (det_load_blk (by kernel_rfl) rfl (by repeat (first | exact .hd | apply Sel.tl)) rfl) rfl ?_
                          refine vh_take_g 20 rfl (by kernel_rfl) (by kernel_rfl) (by kernel_rfl) rfl rfl (det_move rfl) rfl ?_
                          refine vh_take_g 21 rfl (by kernel_rfl) (by kernel_rfl) (by kernel_rfl) rfl rfl (det_indexAddr (size := 1) Try.underlying26 (by kernel_rfl) rfl rfl rfl (by omega) (by first | (exact Bor.own (by repeat (first | exact List.Mem.head _ | apply List.Mem.tail))) | (repeat (first | assumption | apply Bor.cons)))) rfl ?_
                          refine vh_take_g 22 rfl (by kernel_rfl) (by kernel_rfl) (by kernel_rfl) rfl rfl (det_load_str (by kernel_rfl) rfl (by first | (exact Bor.own (by repeat (first | exact List.Mem.head _ | apply List.Mem.tail))) | (repeat (first | assumption | apply Bor.cons))) (by omega)) rfl ?_
                          refine vh_take_g 23 rfl (by kernel_rfl) (by kernel_rfl) (by kernel_rfl) rfl rfl (det_s_neq rfl rfl) rfl ?_
                          refine vh_take 24 rfl (by kernel_rfl) (by kernel_rfl) (by kernel_rfl) (det_pick_f rfl rfl) rfl ?_
                          refine vh_take 25 rfl (by kernel_rfl) (by kernel_rfl) (by kernel_rfl) (det_move rfl) rfl ?_
                          refine vh_split 113 rfl (fun h113 => ?_) (fun h113 => ?_)
                          · skip
                            exfalso; exact h113 hf2
                          · skip
                            refine vh_take_g 26 rfl (by kernel_rfl) (by kernel_rfl) (by kernel_rfl) rfl rfl (det_fieldAddr_ Try.underlying29 rfl (by kernel_rfl) rfl rfl) rfl ?_
                            refine vh_take_g 27 rfl (by kernel_rfl) (by kernel_rfl) (by kernel_rfl) rfl rfl (det_load_blk (by kernel_rfl) rfl (by repeat (first | exact .hd | apply Sel.tl)) rfl) rfl ?_
                            refine vh_take_g 28 rfl (by kernel_rfl) (by kernel_rfl) (by kernel_rfl) rfl rfl (det_move rfl) rfl ?_
                            refine vh_take_g 29 rfl (by kernel_rfl) (by kernel_rfl) (by kernel_rfl) rfl rfl (det_indexAddr (size := 1) Try.underlying27 (by kernel_rfl) rfl rfl rfl (by omega) (by first | (exact Bor.own (by repeat (first | exact List.Mem.head _ | apply List.Mem.tail))) | (repeat (first | assumption | apply Bor.cons)))) rfl ?_
                            refine vh_take_g 30 rfl (by kernel_rfl) (by kernel_rfl) (by kernel_rfl) rfl rfl (det_load_row (by kernel_rfl) rfl (by first | (exact Bor.own (by repeat (first | exact List.Mem.head _ | apply List.Mem.tail))) | (repeat (first | assumption | apply Bor.cons))) (by omega) hig2) rfl ?_
                            refine vh_take_g 33 rfl (by kernel_rfl) (by kernel_rfl) (by kernel_rfl) rfl rfl (det_move rfl) rfl ?_
                            refine vh_two 31 34 (by kernel_rfl) ?_ ?_
                            · skip
                              refine st_eff rfl (.yes rfl rfl) (eff_build_lit slT27 [_] rfl rfl (by first | exact bv_one _ | exact strs_one _ | exact ints_one _ _ | (simp; done) | (simp [Value.oneCell']; done) | assumption) (by omega) (by omega)) rfl (by rintro _ _ ⟨A119, rfl, rfl⟩; exact (by repeat (first | exact List.Sublist.refl _ | exact List.nil_sublist _ | apply List.Sublist.cons_cons | apply List.Sublist.cons))) ?_
                              rintro _ _ ⟨A119, rfl, rfl⟩
                              refine vh_take_g 32 rfl (by kernel_rfl) (by kernel_rfl) (by kernel_rfl) rfl rfl (det_buildp [(1, _)] [.slice none 0 0, .slice none 0 0] [1] [_, _] rfl rfl (by kernel_rfl)) rfl ?_
                              refine vh_one 34 (by kernel_rfl) ?_
                              refine st_eff rfl (.yes rfl rfl) (eff_build_lit slT27 [_] rfl rfl (by first | exact bv_one _ | exact strs_one _ | exact ints_one _ _ | (simp; done) | (simp [Value.oneCell']; done) | assumption) (by omega) (by omega)) rfl (by rintro _ _ ⟨A122, rfl, rfl⟩; exact (by repeat (first | exact List.Sublist.refl _ | exact List.nil_sublist _ | apply List.Sublist.cons_cons | apply List.Sublist.cons))) ?_
                              rintro _ _ ⟨A122, rfl, rfl⟩
                              refine vh_take_g 35 rfl (by kernel_rfl) (by kernel_rfl) (by kernel_rfl) rfl rfl (det_buildp [(1, _)] [.slice none 0 0, .slice none 0 0] [1] [_, _] rfl rfl (by kernel_rfl)) rfl ?_
                              refine vh_one 36 (by kernel_rfl) ?_
                              refine st_call rfl (.yes rfl rfl) co11 rfl (same_one (x := (ya, yc, yy)) (z := (za, zc, yy)) (by first | (exact Bor.own (by repeat (first | exact List.Mem.head _ | apply List.Mem.tail))) | (repeat (first | assumption | apply Bor.cons))) (by first | (exact Bor.own (by repeat (first | exact List.Mem.head _ | apply List.Mem.tail))) | (repeat (first | assumption | apply Bor.cons))) (by first | (exact Bor.own (by repeat (first | exact List.Mem.head _ | apply List.Mem.tail))) | (repeat (first | assumption | apply Bor.cons))) (by first | (exact Bor.own (by repeat (first | exact List.Mem.head _ | apply List.Mem.tail))) | (repeat (first | assumption | apply Bor.cons))) (by show yy.length ≤ _; omega) rfl) rfl (by rintro _ _ ⟨rfl, rfl⟩; exact (by repeat (first | exact List.Sublist.refl _ | exact List.nil_sublist _ | apply List.Sublist.cons_cons | apply List.Sublist.cons))) ?_
                              rintro _ _ ⟨rfl, hLL⟩
                              obtain rfl := hLL.symm
                              refine vh_take_g 37 rfl (by kernel_rfl) (by kernel_rfl) (by kernel_rfl) rfl rfl (det_not_t rfl) rfl ?_
                              refine vh_take 38 rfl (by kernel_rfl) (by kernel_rfl) (by kernel_rfl) (det_pick_f rfl rfl) rfl ?_
                              refine vh_done [(0, _), (6, _), (7, _), (8, _), (9, _), (10, _), (126, _)] ⟨rfl, rfl, rfl, rfl, rfl, rfl, rfl, trivial⟩ (by kernel_rfl) ?_
                              refine then_next ?_
                              refine vc_cond_f rfl ?_
                              refine vc_skip ?_
                              refine then_next ?_
                              refine vc_region ?_
                              refine vl_det (det_move rfl) rfl ?_
                              refine vl_det (det_add rfl rfl (w_i64 (by omega) (by omega))) rfl ?_
                              refine vl_det (det_assign rfl) rfl ?_
                              refine vl_end [(0, _), (6, _), (7, _), (8, _), (9, _), (10, _)] ⟨rfl, rfl, rfl, rfl, rfl, rfl, trivial⟩ ?_
                              refine in_normal ?_
                              refine then_next ?_
                              refine vc_region ?_
                              refine vl_det (det_move rfl) rfl ?_
                              refine vl_det (det_add rfl rfl (w_i64 (by omega) (by omega))) rfl ?_
                              refine vl_det (det_assign rfl) rfl ?_
                              refine vl_end [(0, _), (6, _), (7, _), (8, _), (9, _), (10, _)] ⟨rfl, rfl, rfl, rfl, rfl, rfl, trivial⟩ ?_
                              refine in_loop_ ⟨_, by omega, k + 1, nn + 1, ⟨by omega, hf3.symm⟩, rfl, ⟨(by first | rfl | exact int_to (by omega) | exact sl_to (by omega)), (by first | rfl | exact int_to (by omega) | exact sl_to (by omega)), (by first | rfl | exact int_to (by omega) | exact sl_to (by omega)), (by first | rfl | exact int_to (by omega) | exact sl_to (by omega)), (by first | rfl | exact int_to (by omega) | exact sl_to (by omega)), (by first | rfl | exact int_to (by omega) | exact sl_to (by omega)), trivial⟩, .skip (.skip (.refl _))⟩
                            · skip
                              refine st_eff rfl (.yes rfl rfl) (eff_build_lit slT27 [_] rfl rfl (by first | exact bv_one _ | exact strs_one _ | exact ints_one _ _ | (simp; done) | (simp [Value.oneCell']; done) | assumption) (by omega) (by omega)) rfl (by rintro _ _ ⟨A122, rfl, rfl⟩; exact (by repeat (first | exact List.Sublist.refl _ | exact List.nil_sublist _ | apply List.Sublist.cons_cons | apply List.Sublist.cons))) ?_
                              rintro _ _ ⟨A122, rfl, rfl⟩
                              refine vh_take_g 35 rfl (by kernel_rfl) (by kernel_rfl) (by kernel_rfl) rfl rfl (det_buildp [(1, _)] [.slice none 0 0, .slice none 0 0] [1] [_, _] rfl rfl (by kernel_rfl)) rfl ?_
                              refine vh_one 31 (by kernel_rfl) ?_
                              refine st_eff rfl (.yes rfl rfl) (eff_build_lit slT27 [_] rfl rfl (by first | exact bv_one _ | exact strs_one _ | exact ints_one _ _ | (simp; done) | (simp [Value.oneCell']; done) | assumption) (by omega) (by omega)) rfl (by rintro _ _ ⟨A119, rfl, rfl⟩; exact (by repeat (first | exact List.Sublist.refl _ | exact List.nil_sublist _ | apply List.Sublist.cons_cons | apply List.Sublist.cons))) ?_
                              rintro _ _ ⟨A119, rfl, rfl⟩
                              refine vh_take_g 32 rfl (by kernel_rfl) (by kernel_rfl) (by kernel_rfl) rfl rfl (det_buildp [(1, _)] [.slice none 0 0, .slice none 0 0] [1] [_, _] rfl rfl (by kernel_rfl)) rfl ?_
                              refine vh_one 36 (by kernel_rfl) ?_
                              refine st_call rfl (.yes rfl rfl) co11 rfl (same_one (x := (ya, yc, yy)) (z := (za, zc, yy)) (by first | (exact Bor.own (by repeat (first | exact List.Mem.head _ | apply List.Mem.tail))) | (repeat (first | assumption | apply Bor.cons))) (by first | (exact Bor.own (by repeat (first | exact List.Mem.head _ | apply List.Mem.tail))) | (repeat (first | assumption | apply Bor.cons))) (by first | (exact Bor.own (by repeat (first | exact List.Mem.head _ | apply List.Mem.tail))) | (repeat (first | assumption | apply Bor.cons))) (by first | (exact Bor.own (by repeat (first | exact List.Mem.head _ | apply List.Mem.tail))) | (repeat (first | assumption | apply Bor.cons))) (by show yy.length ≤ _; omega) rfl) rfl (by rintro _ _ ⟨rfl, rfl⟩; exact (by repeat (first | exact List.Sublist.refl _ | exact List.nil_sublist _ | apply List.Sublist.cons_cons | apply List.Sublist.cons))) ?_
                              rintro _ _ ⟨rfl, hLL⟩
                              obtain rfl := hLL.symm
                              refine vh_take_g 37 rfl (by kernel_rfl) (by kernel_rfl) (by kernel_rfl) rfl rfl (det_not_t rfl) rfl ?_
                              refine vh_take 38 rfl (by kernel_rfl) (by kernel_rfl) (by kernel_rfl) (det_pick_f rfl rfl) rfl ?_
                              refine vh_done [(0, _), (6, _), (7, _), (8, _), (9, _), (10, _), (126, _)] ⟨rfl, rfl, rfl, rfl, rfl, rfl, rfl, trivial⟩ (by kernel_rfl) ?_
                              refine then_next ?_
                              refine vc_cond_f rfl ?_
                              refine vc_skip ?_
                              refine then_next ?_
                              refine vc_region ?_
                              refine vl_det (det_move rfl) rfl ?_
                              refine vl_det (det_add rfl rfl (w_i64 (by omega) (by omega))) rfl ?_
                              refine vl_det (det_assign rfl) rfl ?_
                              refine vl_end [(0, _), (6, _), (7, _), (8, _), (9, _), (10, _)] ⟨rfl, rfl, rfl, rfl, rfl, rfl, trivial⟩ ?_
                              refine in_normal ?_
                              refine then_next ?_
                              refine vc_region ?_
                              refine vl_det (det_move rfl) rfl ?_
                              refine vl_det (det_add rfl rfl (w_i64 (by omega) (by omega))) rfl ?_
                              refine vl_det (det_assign rfl) rfl ?_
                              refine vl_end [(0, _), (6, _), (7, _), (8, _), (9, _), (10, _)] ⟨rfl, rfl, rfl, rfl, rfl, rfl, trivial⟩ ?_
                              refine in_loop_ ⟨_, by omega, k + 1, nn + 1, ⟨by omega, hf3.symm⟩, rfl, ⟨(by first | rfl | exact int_to (by omega) | exact sl_to (by omega)), (by first | rfl | exact int_to (by omega) | exact sl_to (by omega)), (by first | rfl | exact int_to (by omega) | exact sl_to (by omega)), (by first | rfl | exact int_to (by omega) | exact sl_to (by omega)), (by first | rfl | exact int_to (by omega) | exact sl_to (by omega)), (by first | rfl | exact int_to (by omega) | exact sl_to (by omega)), trivial⟩, .skip (.skip (.refl _))⟩
                · skip
                  exfalso; omega
              · skip
                have hzq : zl = zz := by rw [show zz = _ from hgk, if_neg h65, List.append_nil, ← hzl]
                subst hzq
                refine vc_skip ?_
                refine then_next ?_
                refine vc_seq ?_
                refine vc_seq ?_
                refine vc_region ?_
                refine vl_det (det_move rfl) rfl ?_
                refine vl_det (det_len_sl Try.underlying37 rfl) rfl ?_
                refine vl_det (det_eql rfl rfl) rfl ?_
                refine vl_end [(0, _), (6, _), (7, _), (8, _), (9, _), (10, _), (11, _), (87, _)] ⟨rfl, rfl, rfl, rfl, rfl, rfl, rfl, rfl, trivial⟩ ?_
                refine then_next ?_
                refine vc_decideU rfl (fun h87 => ?_) (fun h87 => ?_)
                · skip
                  refine vc_exit ?_
                  refine then_exit ?_
                  refine in_eq ?_
                  refine then_next ?_
                  refine vc_region ?_
                  refine vl_det (det_move rfl) rfl ?_
                  refine vl_det (det_add rfl rfl (w_i64 (by omega) (by omega))) rfl ?_
                  refine vl_det (det_assign rfl) rfl ?_
                  refine vl_end [(0, _), (6, _), (7, _), (8, _), (9, _), (10, _)] ⟨rfl, rfl, rfl, rfl, rfl, rfl, trivial⟩ ?_
                  refine in_loop_ ⟨_, by omega, k + 1, nn, ⟨by omega, by rw [fil_skip hkY (decide_eq_false (fun e => e (List.eq_nil_of_length_eq_zero (by omega)))), ← hnn]⟩, rfl, ⟨(by first | rfl | exact int_to (by omega) | exact sl_to (by omega)), (by first | rfl | exact int_to (by omega) | exact sl_to (by omega)), (by first | rfl | exact int_to (by omega) | exact sl_to (by omega)), (by first | rfl | exact int_to (by omega) | exact sl_to (by omega)), (by first | rfl | exact int_to (by omega) | exact sl_to (by omega)), (by first | rfl | exact int_to (by omega) | exact sl_to (by omega)), trivial⟩, .refl _⟩
                · skip
                  have hP : decide (fs (Y.getD k []) ≠ []) = true := decide_eq_true fun e => h87 (by rw [hze, e]; rfl)
                  obtain ⟨hf1, hf2, hf3⟩ := fil_get (P := fun s => decide (fs s ≠ [])) hkY hP
                  rw [← hXY, ← hnn] at hf1 hf2
                  rw [← hnn] at hf3
                  obtain ⟨ya, yc, yy, hy⟩ : ∃ ya yc yy, (toI GX).getD nn iNil = (ya, yc, yy) := ⟨_, _, _, rfl⟩
                  have hgx := hgX nn hf1
                  rw [hy, hf2, ← hzl] at hgx
                  obtain rfl : yy = zl := hgx
                  have hyb : Bor w.heap.size w M 1 (.slice ya yy.length yc) yy.length (ints .i64 yy) := by have := hX3.get (k := nn) (by omega); rwa [hy] at this
                  have hig2 : ((toI GX).map iVal)[nn * 1]? = some (.slice ya yy.length yc) := by have := iget (LL := toI GX) (k := nn) (by omega); rwa [hy] at this
                  refine vc_skip ?_
                  refine then_next ?_
                  refine vc_seq ?_
                  refine vc_seq ?_
                  refine vh_region (S := .own 9 1 A39 TR.length c39 (strs TR) :: .blk g3 35 [.int .u64 tm, .int .u8 (lv.toNat : Int), .string ⟨src.toArray⟩, .string ⟨txt.toArray⟩] :: .blk g7 29 [.slice A3 Y.length c3, .slice A4 Y.length c4] :: .blk g6 29 [.slice A1 X.length c1, .slice A2 X.length c2] :: M) (by kernel_rfl) (by repeat (first | exact List.Sublist.refl _ | exact List.nil_sublist _ | apply List.Sublist.cons_cons | apply List.Sublist.cons)) ?_
                  refine vh_take 0 rfl (by kernel_rfl) (by kernel_rfl) (by kernel_rfl) (det_move rfl) rfl ?_
                  refine vh_take 1 rfl (by kernel_rfl) (by kernel_rfl) (by kernel_rfl) (det_fieldAddr_ Try.underlying29 rfl (by kernel_rfl) rfl rfl) rfl ?_
                  refine vh_take 2 rfl (by kernel_rfl) (by kernel_rfl) (by kernel_rfl) (det_load_blk (by kernel_rfl) rfl (by repeat (first | exact .hd | apply Sel.tl)) rfl) rfl ?_
                  refine vh_take 3 rfl (by kernel_rfl) (by kernel_rfl) (by kernel_rfl) (det_len_sl Try.underlying26 rfl) rfl ?_
                  refine vh_take 4 rfl (by kernel_rfl) (by kernel_rfl) (by kernel_rfl) (det_geq rfl rfl) rfl ?_
                  refine vh_take 5 rfl (by kernel_rfl) (by kernel_rfl) (by kernel_rfl) (det_move rfl) rfl ?_
                  refine vh_split 93 rfl (fun h93 => ?_) (fun h93 => ?_)
                  · skip
                    exfalso; omega
                  · skip
                    refine vh_take_g 6 rfl (by kernel_rfl) (by kernel_rfl) (by kernel_rfl) rfl rfl (det_move rfl) rfl ?_
                    refine vh_take_g 7 rfl (by kernel_rfl) (by kernel_rfl) (by kernel_rfl) rfl rfl (det_fieldAddr_ Try.underlying29 rfl (by kernel_rfl) rfl rfl) rfl ?_
                    refine vh_take_g 8 rfl (by kernel_rfl) (by kernel_rfl) (by kernel_rfl) rfl rfl (det_load_blk (by kernel_rfl) rfl (by repeat (first | exact .hd | apply Sel.tl)) rfl) rfl ?_
                    refine vh_take_g 9 rfl (by kernel_rfl) (by kernel_rfl) (by kernel_rfl) rfl rfl (det_len_sl Try.underlying27 rfl) rfl ?_
                    refine vh_take_g 10 rfl (by kernel_rfl) (by kernel_rfl) (by kernel_rfl) rfl rfl (det_geq rfl rfl) rfl ?_
                    refine vh_take 11 rfl (by kernel_rfl) (by kernel_rfl) (by kernel_rfl) (det_pick_f rfl rfl) rfl ?_
                    refine vh_take 12 rfl (by kernel_rfl) (by kernel_rfl) (by kernel_rfl) (det_move rfl) rfl ?_
                    refine vh_split 100 rfl (fun h100 => ?_) (fun h100 => ?_)
                    · skip
                      exfalso; omega
                    · skip
                      refine vh_take_g 13 rfl (by kernel_rfl) (by kernel_rfl) (by kernel_rfl) rfl rfl (det_fieldAddr_ Try.underlying29 rfl (by kernel_rfl) rfl rfl) rfl ?_
                      refine vh_take_g 14 rfl (by kernel_rfl) (by kernel_rfl) (by kernel_rfl) rfl rfl (det_load_blk (by kernel_rfl) rfl (by repeat (first | exact .hd | apply Sel.tl)) rfl) rfl ?_
                      refine vh_take_g 15 rfl (by kernel_rfl) (by kernel_rfl) (by kernel_rfl) rfl rfl (det_move rfl) rfl ?_
                      refine vh_take_g 16 rfl (by kernel_rfl) (by kernel_rfl) (by kernel_rfl) rfl rfl (det_indexAddr (size := 1) Try.underlying26 (by kernel_rfl) rfl rfl rfl (by omega) (by first | (exact Bor.own (by repeat (first | exact List.Mem.head _ | apply List.Mem.tail))) | (repeat (first | assumption | apply Bor.cons)))) rfl ?_
                      refine vh_take_g 17 rfl (by kernel_rfl) (by kernel_rfl) (by kernel_rfl) rfl rfl (det_load_str (by kernel_rfl) rfl (by first | (exact Bor.own (by repeat (first | exact List.Mem.head _ | apply List.Mem.tail))) | (repeat (first | assumption | apply Bor.cons))) (by omega)) rfl ?_
                      refine vh_take_g 18 rfl (by kernel_rfl) (by kernel_rfl) (by kernel_rfl) rfl rfl (det_fieldAddr_ Try.underlying29 rfl (by kernel_rfl) rfl rfl) rfl ?_
                      refine vh_take_g 19 rfl (by kernel_rfl) (by kernel_rfl) (by kernel_rfl) rfl rfl (det_load_blk (by kernel_rfl) rfl (by repeat (first | exact .hd | apply Sel.tl)) rfl) rfl ?_
                      refine vh_take_g 20 rfl (by kernel_rfl) (by kernel_rfl) (by kernel_rfl) rfl rfl (det_move rfl) rfl ?_
                      refine vh_take_g 21 rfl (by kernel_rfl) (by kernel_rfl) (by kernel_rfl) rfl rfl (det_indexAddr (size := 1) Try.underlying26 (by kernel_rfl) rfl rfl rfl (by omega) (by first | (exact Bor.own (by repeat (first | exact List.Mem.head _ | apply List.Mem.tail))) | (repeat (first | assumption | apply Bor.cons)))) rfl ?_
                      refine vh_take_g 22 rfl (by kernel_rfl) (by kernel_rfl) (by kernel_rfl) rfl rfl (det_load_str (by kernel_rfl) rfl (by first | (exact Bor.own (by repeat (first | exact List.Mem.head _ | apply List.Mem.tail))) | (repeat (first | assumption | apply Bor.cons))) (by omega)) rfl ?_
                      refine vh_take_g 23 rfl (by kernel_rfl) (by kernel_rfl) (by kernel_rfl) rfl rfl (det_s_neq rfl rfl) rfl ?_
                      refine vh_take 24 rfl (by kernel_rfl) (by kernel_rfl) (by kernel_rfl) (det_pick_f rfl rfl) rfl ?_
                      refine vh_take 25 rfl (by kernel_rfl) (by kernel_rfl) (by kernel_rfl) (det_move rfl) rfl ?_
                      refine vh_split 113 rfl (fun h113 => ?_) (fun h113 => ?_)
                      · skip
                        exfalso; exact h113 hf2
                      · skip
                        refine vh_take_g 26 rfl (by kernel_rfl) (by kernel_rfl) (by kernel_rfl) rfl rfl (det_fieldAddr_ Try.underlying29 rfl (by kernel_rfl) rfl rfl) rfl ?_
                        refine vh_take_g 27 rfl (by kernel_rfl) (by kernel_rfl) (by kernel_rfl) rfl rfl (det_load_blk (by kernel_rfl) rfl (by repeat (first | exact .hd | apply Sel.tl)) rfl) rfl ?_
                        refine vh_take_g 28 rfl (by kernel_rfl) (by kernel_rfl) (by kernel_rfl) rfl rfl (det_move rfl) rfl ?_
                        refine vh_take_g 29 rfl (by kernel_rfl) (by kernel_rfl) (by kernel_rfl) rfl rfl (det_indexAddr (size := 1) Try.underlying27 (by kernel_rfl) rfl rfl rfl (by omega) (by first | (exact Bor.own (by repeat (first | exact List.Mem.head _ | apply List.Mem.tail))) | (repeat (first | assumption | apply Bor.cons)))) rfl ?_
                        refine vh_take_g 30 rfl (by kernel_rfl) (by kernel_rfl) (by kernel_rfl) rfl rfl (det_load_row (by kernel_rfl) rfl (by first | (exact Bor.own (by repeat (first | exact List.Mem.head _ | apply List.Mem.tail))) | (repeat (first | assumption | apply Bor.cons))) (by omega) hig2) rfl ?_
                        refine vh_take_g 33 rfl (by kernel_rfl) (by kernel_rfl) (by kernel_rfl) rfl rfl (det_move rfl) rfl ?_
                        refine vh_two 31 34 (by kernel_rfl) ?_ ?_
                        · skip
                          refine st_eff rfl (.yes rfl rfl) (eff_build_lit slT27 [_] rfl rfl (by first | exact bv_one _ | exact strs_one _ | exact ints_one _ _ | (simp; done) | (simp [Value.oneCell']; done) | assumption) (by omega) (by omega)) rfl (by rintro _ _ ⟨A119, rfl, rfl⟩; exact (by repeat (first | exact List.Sublist.refl _ | exact List.nil_sublist _ | apply List.Sublist.cons_cons | apply List.Sublist.cons))) ?_
                          rintro _ _ ⟨A119, rfl, rfl⟩
                          refine vh_take_g 32 rfl (by kernel_rfl) (by kernel_rfl) (by kernel_rfl) rfl rfl (det_buildp [(1, _)] [.slice none 0 0, .slice none 0 0] [1] [_, _] rfl rfl (by kernel_rfl)) rfl ?_
                          refine vh_one 34 (by kernel_rfl) ?_
                          refine st_eff rfl (.yes rfl rfl) (eff_build_lit slT27 [_] rfl rfl (by first | exact bv_one _ | exact strs_one _ | exact ints_one _ _ | (simp; done) | (simp [Value.oneCell']; done) | assumption) (by omega) (by omega)) rfl (by rintro _ _ ⟨A122, rfl, rfl⟩; exact (by repeat (first | exact List.Sublist.refl _ | exact List.nil_sublist _ | apply List.Sublist.cons_cons | apply List.Sublist.cons))) ?_
                          rintro _ _ ⟨A122, rfl, rfl⟩
                          refine vh_take_g 35 rfl (by kernel_rfl) (by kernel_rfl) (by kernel_rfl) rfl rfl (det_buildp [(1, _)] [.slice none 0 0, .slice none 0 0] [1] [_, _] rfl rfl (by kernel_rfl)) rfl ?_
                          refine vh_one 36 (by kernel_rfl) ?_
                          refine st_call rfl (.yes rfl rfl) co11 rfl (same_one (x := (ya, yc, yy)) (z := (za, zc, yy)) (by first | (exact Bor.own (by repeat (first | exact List.Mem.head _ | apply List.Mem.tail))) | (repeat (first | assumption | apply Bor.cons))) (by first | (exact Bor.own (by repeat (first | exact List.Mem.head _ | apply List.Mem.tail))) | (repeat (first | assumption | apply Bor.cons))) (by first | (exact Bor.own (by repeat (first | exact List.Mem.head _ | apply List.Mem.tail))) | (repeat (first | assumption | apply Bor.cons))) (by first | (exact Bor.own (by repeat (first | exact List.Mem.head _ | apply List.Mem.tail))) | (repeat (first | assumption | apply Bor.cons))) (by show yy.length ≤ _; omega) rfl) rfl (by rintro _ _ ⟨rfl, rfl⟩; exact (by repeat (first | exact List.Sublist.refl _ | exact List.nil_sublist _ | apply List.Sublist.cons_cons | apply List.Sublist.cons))) ?_
                          rintro _ _ ⟨rfl, hLL⟩
                          obtain rfl := hLL.symm
                          refine vh_take_g 37 rfl (by kernel_rfl) (by kernel_rfl) (by kernel_rfl) rfl rfl (det_not_t rfl) rfl ?_
                          refine vh_take 38 rfl (by kernel_rfl) (by kernel_rfl) (by kernel_rfl) (det_pick_f rfl rfl) rfl ?_
                          refine vh_done [(0, _), (6, _), (7, _), (8, _), (9, _), (10, _), (126, _)] ⟨rfl, rfl, rfl, rfl, rfl, rfl, rfl, trivial⟩ (by kernel_rfl) ?_
                          refine then_next ?_
                          refine vc_cond_f rfl ?_
                          refine vc_skip ?_
                          refine then_next ?_
                          refine vc_region ?_
                          refine vl_det (det_move rfl) rfl ?_
                          refine vl_det (det_add rfl rfl (w_i64 (by omega) (by omega))) rfl ?_
                          refine vl_det (det_assign rfl) rfl ?_
                          refine vl_end [(0, _), (6, _), (7, _), (8, _), (9, _), (10, _)] ⟨rfl, rfl, rfl, rfl, rfl, rfl, trivial⟩ ?_
                          refine in_normal ?_
                          refine then_next ?_
                          refine vc_region ?_
                          refine vl_det (det_move rfl) rfl ?_
                          refine vl_det (det_add rfl rfl (w_i64 (by omega) (by omega))) rfl ?_
                          refine vl_det (det_assign rfl) rfl ?_
                          refine vl_end [(0, _), (6, _), (7, _), (8, _), (9, _), (10, _)] ⟨rfl, rfl, rfl, rfl, rfl, rfl, trivial⟩ ?_
                          refine in_loop_ ⟨_, by omega, k + 1, nn + 1, ⟨by omega, hf3.symm⟩, rfl, ⟨(by first | rfl | exact int_to (by omega) | exact sl_to (by omega)), (by first | rfl | exact int_to (by omega) | exact sl_to (by omega)), (by first | rfl | exact int_to (by omega) | exact sl_to (by omega)), (by first | rfl | exact int_to (by omega) | exact sl_to (by omega)), (by first | rfl | exact int_to (by omega) | exact sl_to (by omega)), (by first | rfl | exact int_to (by omega) | exact sl_to (by omega)), trivial⟩, .skip (.skip (.refl _))⟩
                        · skip
                          refine st_eff rfl (.yes rfl rfl) (eff_build_lit slT27 [_] rfl rfl (by first | exact bv_one _ | exact strs_one _ | exact ints_one _ _ | (simp; done) | (simp [Value.oneCell']; done) | assumption) (by omega) (by omega)) rfl (by rintro _ _ ⟨A122, rfl, rfl⟩; exact (by repeat (first | exact List.Sublist.refl _ | exact List.nil_sublist _ | apply List.Sublist.cons_cons | apply List.Sublist.cons))) ?_
                          rintro _ _ ⟨A122, rfl, rfl⟩
                          refine vh_take_g 35 rfl (by kernel_rfl) (by kernel_rfl) (by kernel_rfl) rfl rfl (det_buildp [(1, _)] [.slice none 0 0, .slice none 0 0] [1] [_, _] rfl rfl (by kernel_rfl)) rfl ?_
                          refine vh_one 31 (by kernel_rfl) ?_
                          refine st_eff rfl (.yes rfl rfl) (eff_build_lit slT27 [_] rfl rfl (by first | exact bv_one _ | exact strs_one _ | exact ints_one _ _ | (simp; done) | (simp [Value.oneCell']; done) | assumption) (by omega) (by omega)) rfl (by rintro _ _ ⟨A119, rfl, rfl⟩; exact (by repeat (first | exact List.Sublist.refl _ | exact List.nil_sublist _ | apply List.Sublist.cons_cons | apply List.Sublist.cons))) ?_
                          rintro _ _ ⟨A119, rfl, rfl⟩
                          refine vh_take_g 32 rfl (by kernel_rfl) (by kernel_rfl) (by kernel_rfl) rfl rfl (det_buildp [(1, _)] [.slice none 0 0, .slice none 0 0] [1] [_, _] rfl rfl (by kernel_rfl)) rfl ?_
                          refine vh_one 36 (by kernel_rfl) ?_
                          refine st_call rfl (.yes rfl rfl) co11 rfl (same_one (x := (ya, yc, yy)) (z := (za, zc, yy)) (by first | (exact Bor.own (by repeat (first | exact List.Mem.head _ | apply List.Mem.tail))) | (repeat (first | assumption | apply Bor.cons))) (by first | (exact Bor.own (by repeat (first | exact List.Mem.head _ | apply List.Mem.tail))) | (repeat (first | assumption | apply Bor.cons))) (by first | (exact Bor.own (by repeat (first | exact List.Mem.head _ | apply List.Mem.tail))) | (repeat (first | assumption | apply Bor.cons))) (by first | (exact Bor.own (by repeat (first | exact List.Mem.head _ | apply List.Mem.tail))) | (repeat (first | assumption | apply Bor.cons))) (by show yy.length ≤ _; omega) rfl) rfl (by rintro _ _ ⟨rfl, rfl⟩; exact (by repeat (first | exact List.Sublist.refl _ | exact List.nil_sublist _ | apply List.Sublist.cons_cons | apply List.Sublist.cons))) ?_
                          rintro _ _ ⟨rfl, hLL⟩
                          obtain rfl := hLL.symm
                          refine vh_take_g 37 rfl (by kernel_rfl) (by kernel_rfl) (by kernel_rfl) rfl rfl (det_not_t rfl) rfl ?_
                          refine vh_take 38 rfl (by kernel_rfl) (by kernel_rfl) (by kernel_rfl) (det_pick_f rfl rfl) rfl ?_
                          refine vh_done [(0, _), (6, _), (7, _), (8, _), (9, _), (10, _), (126, _)] ⟨rfl, rfl, rfl, rfl, rfl, rfl, rfl, trivial⟩ (by kernel_rfl) ?_
                          refine then_next ?_
                          refine vc_cond_f rfl ?_
                          refine vc_skip ?_
                          refine then_next ?_
                          refine vc_region ?_
                          refine vl_det (det_move rfl) rfl ?_
                          refine vl_det (det_add rfl rfl (w_i64 (by omega) (by omega))) rfl ?_
                          refine vl_det (det_assign rfl) rfl ?_
                          refine vl_end [(0, _), (6, _), (7, _), (8, _), (9, _), (10, _)] ⟨rfl, rfl, rfl, rfl, rfl, rfl, trivial⟩ ?_
                          refine in_normal ?_
                          refine then_next ?_
                          refine vc_region ?_
                          refine vl_det (det_move rfl) rfl ?_
                          refine vl_det (det_add rfl rfl (w_i64 (by omega) (by omega))) rfl ?_
                          refine vl_det (det_assign rfl) rfl ?_
                          refine vl_end [(0, _), (6, _), (7, _), (8, _), (9, _), (10, _)] ⟨rfl, rfl, rfl, rfl, rfl, rfl, trivial⟩ ?_
                          refine in_loop_ ⟨_, by omega, k + 1, nn + 1, ⟨by omega, hf3.symm⟩, rfl, ⟨(by first | rfl | exact int_to (by omega) | exact sl_to (by omega)), (by first | rfl | exact int_to (by omega) | exact sl_to (by omega)), (by first | rfl | exact int_to (by omega) | exact sl_to (by omega)), (by first | rfl | exact int_to (by omega) | exact sl_to (by omega)), (by first | rfl | exact int_to (by omega) | exact sl_to (by omega)), (by first | rfl | exact int_to (by omega) | exact sl_to (by omega)), trivial⟩, .skip (.skip (.refl _))⟩
            · skip
              obtain rfl : k = Y.length := by omega
              rw [List.take_length, ← hXY] at hnn
              refine vc_exit ?_
              refine then_exit ?_
              refine loop_exit ?_
              refine in_eq ?_
              refine then_next ?_
              refine vc_seq ?_
              refine vc_region ?_
              refine vl_det (det_move rfl) rfl ?_
              refine vl_det (det_fieldAddr_ Try.underlying29 rfl (by kernel_rfl) rfl rfl) rfl ?_
              refine vl_det (det_load_blk (by kernel_rfl) rfl (by repeat (first | exact .hd | apply Sel.tl)) rfl) rfl ?_
              refine vl_det (det_len_sl Try.underlying26 rfl) rfl ?_
              refine vl_det (det_eql rfl rfl) rfl ?_
              refine vl_det (det_assign rfl) rfl ?_
              refine vl_end [(4, _)] ⟨rfl, trivial⟩ ?_
              refine then_next ?_
              refine vc_ret ?_
              refine ret_wk (L' := []) (wk_drop _) ?_
              refine ret1 rfl rfl ?_
              first | rfl | (rw [decide_eq_true (by omega)])
    · skip
      refine vl_guard_f rfl rfl rfl rfl ?_
      refine vl_guard_f rfl rfl rfl rfl ?_
      refine vl_guard_f rfl rfl rfl rfl ?_
      refine vl_det (det_pick_t rfl rfl) rfl ?_
      refine vl_end [(0, _), (3, _), (27, _)] ⟨rfl, rfl, rfl, trivial⟩ ?_
      refine then_next ?_
      refine vc_cond_t rfl ?_
      refine vc_seq ?_
      refine vc_region ?_
      refine vl_det (det_assign rfl) rfl ?_
      refine vl_end [(4, _)] ⟨rfl, trivial⟩ ?_
      refine then_next ?_
      refine vc_ret ?_
      refine then_ret ?_
      refine ret_wk (L' := []) (wk_drop _) ?_
      refine ret1 rfl rfl ?_
      first | rfl | (rw [decide_eq_true (by omega)])
  · skip
    refine vl_guard_f rfl rfl rfl rfl ?_
    refine vl_guard_f rfl rfl rfl rfl ?_
    refine vl_guard_f rfl rfl rfl rfl ?_
    refine vl_det (det_pick_t rfl rfl) rfl ?_
    refine vl_det (det_move rfl) rfl ?_
    refine vl_guard_f rfl rfl rfl rfl ?_
    refine vl_guard_f rfl rfl rfl rfl ?_
    refine vl_guard_f rfl rfl rfl rfl ?_
    refine vl_guard_f rfl rfl rfl rfl ?_
    refine vl_det (det_pick_t rfl rfl) rfl ?_
    refine vl_end [(0, _), (3, _), (27, _)] ⟨rfl, rfl, rfl, trivial⟩ ?_
    refine then_next ?_
    refine vc_cond_t rfl ?_
    refine vc_seq ?_
    refine vc_region ?_
    refine vl_det (det_assign rfl) rfl ?_
    refine vl_end [(4, _)] ⟨rfl, trivial⟩ ?_
    refine then_next ?_
    refine vc_ret ?_
    refine then_ret ?_
    refine ret_wk (L' := []) (wk_drop _) ?_
    refine ret1 rfl rfl ?_
    first | rfl | (rw [decide_eq_true (by omega)])
theorem own : ownKnob Try.prog.godebug = none := by kernel_rfl
theorem laidOut : laidOutB Try.prog = true := by kernel_rfl
set_option maxRecDepth 100000 in
theorem lifted (os : Os) (started : os.Started) (H : Type) (enc : TypeId × Value → H) :
    ReturnsInHanded {} Try.checked os 4 .any (Rows.postMoreSpec.pre6 enc Try.prog Try.f4 Rows.postMoreRow.domain false) (Rows.postMoreSpec.post enc Try.prog Try.f4 false true false false) := by
  refine returnsInHanded_of_change (C := Try.checked) own started (by kernel_rfl) Try.func4
    (ChangeSpec.witness6 (enc := enc) (C := Try.checked) false ⟨#[], #[.slice none 0 0, (.agg #[.int .u64 0, .int .u8 0, .string ByteArray.empty, .string ByteArray.empty])], []⟩ 8 (by kernel_rfl) (by kernel_rfl) (by kernel_rfl) (by kernel_rfl)) ?_
  intro W base args ds gs before hval0 hW hcnd _
  have hval : ∀ (j : Nat) t v, Try.f4.params[j]? = some t → args[j]? = some v → Value.okWide Try.prog W .any base t v := hval0
  have hW' := hW
  obtain ⟨p, q, hA0, hV, rfl, hfz, hnd⟩ := hW
  have hA : DataW.TrodAll enc Try.prog W 0 (fun _ => true) true Try.f4.params.toList args.toList ds p := hA0
  rw [Try.params4] at hA hval
  obtain ⟨v0', vs0, d0, ds0, p0, q0, hargs, rfl, rfl, h0', r0⟩ := trodAll_cons hA
  obtain ⟨v1', vs1, d1, ds1, p1, q1, rfl, rfl, rfl, h1', r1⟩ := trodAll_cons r0
  obtain ⟨rfl, rfl, rfl⟩ := trodAll_nil r1
  obtain rfl : args = #[v0', v1'] := by cases args; simp_all
  obtain ⟨rfl, rfl⟩ := trodVars_none hV
  have k0 := h0'
  have lt0 : ∀ x ∈ p0, x.block < W.heap.size := by obtain ⟨m, hm⟩ := k0; exact DataW.trod_lt m _ _ _ hm
  obtain ⟨A0, n0, c0, rfl⟩ := okWide_slice Try.underlying22 (hval 0 22 v0' rfl rfl)
  obtain ⟨⟨u0, L0⟩, e0, hr0, ho0, hm0⟩ := DecT.arg (dec_slice Try.underlying22 (by kernel_rfl : Try.prog.cellsOf 35 = 4) (by omega) (fun _ => rfl) (dec_rec W)) k0
  obtain rfl := cells_slice A0 n0 c0 rfl e0
  have k1 := h1'
  have lt1 : ∀ x ∈ p1, x.block < W.heap.size := by obtain ⟨m, hm⟩ := k1; exact DataW.trod_lt m _ _ _ hm
  obtain ⟨x1, e1, w1⟩ := DecT.arg (w := W) (dec_rec W) k1
  obtain rfl := agg_of Try.underlying35 (hval 1 35 v1' rfl rfl) e1
  clear hA0 hval0
  refine (walk W _ L0 hr0 ho0 hm0 x1 w1).mono fun e W' ⟨he, bel⟩ => ?_
  subst he
  exact ⟨_, rfl, _, _, _, [], _, [], hW', trodAll_mk1 (shut_bool Try.underlying4 _), (trodAll_cons_mk (Below.trod laidOut (by kernel_rfl) (of_decide_eq_true (by kernel_rfl)) k0 bel lt0) (trodAll_cons_mk (Below.trod laidOut (by kernel_rfl) (of_decide_eq_true (by kernel_rfl)) k1 bel lt1) trodAll_mk0)), rfl, bel.frame _, fun h => by cases h⟩

theorem over : Rows.postMoreRow.holds Try.pinned (OpenSpec.ofChange Rows.postMoreSpec) :=
  OpenClaim.holds_of_wide 4 Try.f4 rfl rfl rfl rfl rfl rfl rfl ⟨rfl, rfl, rfl, rfl, rfl⟩ rfl rfl rfl rfl rfl (by kernel_rfl) Try.func4 (by kernel_rfl)
    (of_decide_eq_true (by kernel_rfl)) (by unfold Func.isWrapper; first | (rw [if_pos (by decide +kernel)]; kernel_rfl) | (rw [if_neg (by decide +kernel)]; exact ⟨rfl, rfl⟩))
    (fun os started H enc _ => lifted os started H enc)

theorem proved : Rows.PostMoreSaid := over
#print axioms proved
end Go.Proofs.Ytpamjobiohbibaa.lawPostMore
