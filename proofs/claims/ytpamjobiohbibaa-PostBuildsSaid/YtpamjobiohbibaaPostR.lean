/-
  The document's index of a log, by frames. Condition: a log that weighs at most 10^6.
-/
import Derived.Test.YtpamjobiohbibaaPostS
namespace Go.Proofs.Ytpamjobiohbibaa
open Go.RowKit
set_option linter.unusedVariables false
set_option maxRecDepth 20000
variable {B : Nat} {w0 : World} {F : List Ch} {A A1 A2 B1 B2 : Option Addr} {n c c1 c2 b1 b2 g : Nat}
theorem wlen (L : List RecC) : L.length ≤ wsum L := by
  induction L with
  | nil => simp [wsum]
  | cons x r ih => simp only [wsum, List.map_cons, List.sum_cons, List.length_cons] at ih ⊢; unfold RecC.w at *; omega
theorem rtrm_d {x : RecC} (hx : x.w ≤ 1000000) : Does Try.prog B w0 31 [.agg (RecC.cells x).toArray] F (fun r L => ∃ A c, r = .slice A (trm x).length c ∧ L = .own 9 1 A (trm x).length c (strs (trm x)) :: F) := by
  obtain ⟨tm, lv, src, txt⟩ := x
  unfold RecC.w at hx
  exact rterms_d txt src (by simp only at hx; omega) (by simp only at hx; omega)
theorem wk_row (P : List Ch) {LL : List Lst} {e : Lst} : Wk (lRow e :: (P ++ (LL.map lRow ++ F))) (P ++ ((LL ++ [e]).map lRow ++ F)) := by
  refine .of_perm ?_
  rw [List.map_append, List.append_assoc, ← List.append_assoc, ← List.append_assoc]
  exact List.perm_middle.symm
theorem bld_step {f : Nat → List Txt} {i j : Nat} {o : List Txt} (h : o = setT ((List.range i).flatMap f ++ (f i).take j)) (hj : j < (f i).length) : putL o ((f i).getD j []) = setT ((List.range i).flatMap f ++ (f i).take (j + 1)) := by
  rw [h, putL_set, List.append_assoc]
  congr 2
  rw [List.take_add_one, List.getElem?_eq_getElem hj]
  simp [List.getD, List.getElem?_eq_getElem hj]
theorem bld_next {f : Nat → List Txt} {i : Nat} : setT ((List.range i).flatMap f ++ (f i).take (f i).length) = setT ((List.range (i + 1)).flatMap f ++ (f (i + 1)).take 0) := by
  rw [List.take_length, List.take_zero, List.append_nil, List.range_succ, List.flatMap_append]
  simp
theorem bldT_len (L : List RecC) : ∀ i, i ≤ L.length → ((List.range i).flatMap (tmF L)).length ≤ wsum (L.take i)
  | 0, _ => by simp
  | i + 1, h => by
    have ih := bldT_len L i (by omega)
    have hw := wsum_take (L := L) (k := i) (by omega)
    have := trm_len (recAt L i)
    rw [List.range_succ, List.flatMap_append, List.length_append, hw]
    simp only [List.flatMap_cons, List.flatMap_nil, List.append_nil]
    show _ + (trm (recAt L i)).length ≤ _
    omega
theorem wle {L : List RecC} {i : Nat} (h : i < L.length) : (recAt L i).w ≤ wsum L := by
  have h1 := wsum_take h
  have h2 := wsum_le L (i + 1)
  omega
theorem rbuild_d {L : List RecC} (hb : Bor B w0 F 4 (.slice A L.length c) L.length (recs L)) (hw : wsum L ≤ 1000000) :
    Does Try.prog B w0 13 [.slice A L.length c] F (fun r K => ∃ (A1 : Option Addr) (c1 : Nat) (A2 : Option Addr) (c2 : Nat) (LL : List Lst), r = .agg [.slice A1 (bldT (tmF L) L.length).length c1, .slice A2 (bldT (tmF L) L.length).length c2].toArray ∧
      K = .own 9 1 A1 (bldT (tmF L) L.length).length c1 (strs (bldT (tmF L) L.length)) :: .own 37 1 A2 (bldT (tmF L) L.length).length c2 (LL.map lVal) :: (LL.map lRow ++ F) ∧ LL.map (·.2.2) = bldL (tmF L) L.length) := by
  have hll := wlen L
  have hbl := bldT_len L L.length (Nat.le_refl _)
  rw [List.take_length] at hbl
  have hs0 : setT [] = [] := setT_uniq StT.nil (by simp)
  refine fn_walk Try.func13 71 rfl rfl rfl [(0, .slice A L.length c)] ⟨⟨rfl, rfl⟩, trivial⟩ ?_
  refine vc_seq ?_
  refine vc_region ?_
  refine vl_eff (eff_alloc_z (zv := (.agg #[.slice none 0 0, .slice none 0 0])) (by kernel_rfl) rfl) rfl ?_
  rintro _ _ ⟨g2, rfl, rfl⟩
  refine vl_end [(0, _), (2, _)] ⟨rfl, rfl, trivial⟩ ?_
  refine then_next ?_
  refine vc_seq ?_
  refine vc_region ?_
  refine vl_det (det_build0 [.slice none 0 0, .slice none 0 0] (by kernel_rfl)) rfl ?_
  refine vl_eff (eff_alloc_z (zv := (.agg #[.slice none 0 0, .slice none 0 0])) (by kernel_rfl) rfl) rfl ?_
  rintro _ _ ⟨g3, rfl, rfl⟩
  refine vl_eff0 (eff_store_whole 2 (by kernel_rfl) rfl rfl (by first | exact bv_one _ | exact strs_one _ | exact ints_one _ _ | (simp; done) | (simp [Value.oneCell']; done) | assumption) (by repeat (first | exact .hd | apply Sel.tl)) (by first | rfl | (simp; omega) | (simp [*]; done)) (by first | rfl | (simp; omega) | (simp [*]; done))) ?_
  rintro _ _ rfl
  refine vl_end [(0, _), (2, _), (3, _)] ⟨rfl, rfl, rfl, trivial⟩ ?_
  refine then_next ?_
  refine vc_seq ?_
  refine vc_seq ?_
  refine vc_region ?_
  refine vl_det (det_assign rfl) rfl ?_
  refine vl_end [(0, _), (2, _), (3, _), (4, _)] ⟨rfl, rfl, rfl, rfl, trivial⟩ ?_
  refine then_next ?_
  refine vc_block ?_
  refine vc_nil_row 9 1 none ?_
  refine vc_loopJ (fun zf zL zm => ∃ (i : Nat) (o : List Txt) (A3 : Option Addr) (c3 : Nat), (i ≤ L.length ∧ o = setT ((List.range i).flatMap (tmF L) ++ (tmF L i).take 0)) ∧ L.length - i = zm ∧ Sub zf [(0, .slice A L.length c), (2, .pointer (some ⟨g2, 0, none⟩)), (3, .pointer (some ⟨g3, 0, none⟩)), (4, .int .i64 i)] ∧ Wk zL (.own 9 1 A3 o.length c3 (strs o) :: .blk g3 29 [.slice A3 o.length c3, .slice none 0 0] :: .blk g2 29 [.slice none 0 0, .slice none 0 0] :: F)) _ ⟨0, [], none, 0, ⟨Nat.zero_le _, by simp [hs0]⟩, rfl, ⟨(by first | rfl | exact int_to (by omega) | exact sl_to (by omega)), (by first | rfl | exact int_to (by omega) | exact sl_to (by omega)), (by first | rfl | exact int_to (by omega) | exact sl_to (by omega)), (by first | rfl | exact int_to (by omega) | exact sl_to (by omega)), trivial⟩, .refl _⟩ ?_
  rintro _ _ _ ⟨i, o, A3, c3, ⟨hi, ho⟩, rfl, hs, hp⟩
  refine vc_weaken _ hs (vc_wk hp ?_)
  clear hs hp
  refine vc_seq ?_
  refine vc_seq ?_
  refine vc_region ?_
  refine vl_det (det_move rfl) rfl ?_
  refine vl_det (det_move rfl) rfl ?_
  refine vl_det (det_len_sl Try.underlying22 rfl) rfl ?_
  refine vl_det (det_lss rfl rfl) rfl ?_
  refine vl_end [(0, _), (2, _), (3, _), (4, _), (14, _)] ⟨rfl, rfl, rfl, rfl, rfl, trivial⟩ ?_
  refine then_next ?_
  refine vc_decideU rfl (fun h14 => ?_) (fun h14 => ?_)
  · skip
    have hrc := rec_cells (L := L) (k := i) (by omega)
    have hwi := wle (L := L) (i := i) (by omega)
    have hib := bldT_len L (i + 1) (by omega)
    have hiw := wsum_le L (i + 1)
    refine vc_skip ?_
    refine then_next ?_
    refine vc_seq ?_
    refine vc_block ?_
    refine vc_seq ?_
    refine vc_region ?_
    refine vl_det (det_move rfl) rfl ?_
    refine vl_det (det_move rfl) rfl ?_
    refine vl_det (det_indexAddr (size := 4) Try.underlying22 (by kernel_rfl) rfl rfl rfl (by omega) (by first | (exact Bor.own (by repeat (first | exact List.Mem.head _ | apply List.Mem.tail))) | (repeat (first | assumption | apply Bor.cons)))) rfl ?_
    refine vl_det (det_load_rowa 4 (by kernel_rfl) rfl (by first | (exact Bor.own (by repeat (first | exact List.Mem.head _ | apply List.Mem.tail))) | (repeat (first | assumption | apply Bor.cons))) (by omega) (RecC.cells (recAt L i)) hrc rfl) rfl ?_
    refine vl_call co31 rfl (rtrm_d (x := recAt L i) (by omega)) rfl ?_
    rintro _ _ ⟨A21, c21, rfl, hLL⟩
    obtain rfl := hLL.symm
    refine vl_det (det_assign rfl) rfl ?_
    refine vl_end [(0, _), (2, _), (3, _), (4, _), (5, _)] ⟨rfl, rfl, rfl, rfl, rfl, trivial⟩ ?_
    refine then_next ?_
    refine vc_seq ?_
    refine vc_region ?_
    refine vl_det (det_assign rfl) rfl ?_
    refine vl_end [(0, _), (2, _), (3, _), (4, _), (5, _), (6, _)] ⟨rfl, rfl, rfl, rfl, rfl, rfl, trivial⟩ ?_
    refine then_next ?_
    refine vc_block ?_
    refine vc_loopJ (fun zf zL zm => ∃ (j : Nat) (o2 : List Txt) (A4 : Option Addr) (c4 : Nat), (j ≤ (tmF L i).length ∧ o2 = setT ((List.range i).flatMap (tmF L) ++ (tmF L i).take j)) ∧ (tmF L i).length - j = zm ∧ Sub zf [(0, .slice A L.length c), (2, .pointer (some ⟨g2, 0, none⟩)), (3, .pointer (some ⟨g3, 0, none⟩)), (4, .int .i64 i), (5, .slice A21 (tmF L i).length c21), (6, .int .i64 j)] ∧ Wk zL (.own 9 1 A4 o2.length c4 (strs o2) :: .blk g3 29 [.slice A4 o2.length c4, .slice none 0 0] :: .own 9 1 A21 (tmF L i).length c21 (strs (tmF L i)) :: .blk g2 29 [.slice none 0 0, .slice none 0 0] :: F)) _ ⟨0, o, A3, c3, ⟨Nat.zero_le _, ho⟩, rfl, ⟨(by first | rfl | exact int_to (by omega) | exact sl_to (by omega)), (by first | rfl | exact int_to (by omega) | exact sl_to (by omega)), (by first | rfl | exact int_to (by omega) | exact sl_to (by omega)), (by first | rfl | exact int_to (by omega) | exact sl_to (by omega)), (by first | rfl | exact int_to (by omega) | exact sl_to (by omega)), (by first | rfl | exact int_to (by omega) | exact sl_to (by omega)), trivial⟩, (wu1 (wu1 (wu0 (wu0 (.refl _)))))⟩ ?_
    rintro _ _ _ ⟨j, o2, A4, c4, ⟨hj, ho2⟩, rfl, hs, hp⟩
    refine vc_weaken _ hs (vc_wk hp ?_)
    clear hs hp
    refine vc_seq ?_
    refine vc_seq ?_
    refine vc_region ?_
    refine vl_det (det_move rfl) rfl ?_
    refine vl_det (det_move rfl) rfl ?_
    refine vl_det (det_len_sl Try.underlying26 rfl) rfl ?_
    refine vl_det (det_lss rfl rfl) rfl ?_
    refine vl_end [(0, _), (2, _), (3, _), (4, _), (5, _), (6, _), (25, _)] ⟨rfl, rfl, rfl, rfl, rfl, rfl, rfl, trivial⟩ ?_
    refine then_next ?_
    refine vc_decideU rfl (fun h25 => ?_) (fun h25 => ?_)
    · skip
      have htl : (tmF L i).length ≤ wsum L := Nat.le_trans (trm_len _) (wle (by omega))
      have hoS : StT o2 := ho2 ▸ setT_st _
      have hol : o2.length ≤ wsum L := by
        have h1 := setT_len ((List.range i).flatMap (tmF L) ++ (tmF L i).take j)
        rw [← ho2, List.length_append, List.length_take] at h1
        rw [List.range_succ, List.flatMap_append, List.length_append] at hib
        simp only [List.flatMap_cons, List.flatMap_nil, List.append_nil] at hib
        omega
      refine vc_skip ?_
      refine then_next ?_
      refine vc_seq ?_
      refine vc_block ?_
      refine vh_region (S := .own 9 1 A21 (tmF L i).length c21 (strs (tmF L i)) :: []) (by kernel_rfl) (by repeat (first | exact List.Sublist.refl _ | exact List.nil_sublist _ | apply List.Sublist.cons_cons | apply List.Sublist.cons)) ?_
      refine vh_take 0 rfl (by kernel_rfl) (by kernel_rfl) (by kernel_rfl) (det_fieldAddr_ Try.underlying29 rfl (by kernel_rfl) rfl rfl) rfl ?_
      refine vh_take 2 rfl (by kernel_rfl) (by kernel_rfl) (by kernel_rfl) (det_move rfl) rfl ?_
      refine vh_take 3 rfl (by kernel_rfl) (by kernel_rfl) (by kernel_rfl) (det_move rfl) rfl ?_
      refine vh_take 4 rfl (by kernel_rfl) (by kernel_rfl) (by kernel_rfl) (det_indexAddr (size := 1) Try.underlying26 (by kernel_rfl) rfl rfl rfl (by omega) (by first | (exact Bor.own (by repeat (first | exact List.Mem.head _ | apply List.Mem.tail))) | (repeat (first | assumption | apply Bor.cons)))) rfl ?_
      refine vh_take 5 rfl (by kernel_rfl) (by kernel_rfl) (by kernel_rfl) (det_load_str (b := tmF L i) (j := j) (by kernel_rfl) rfl (by first | (exact Bor.own (by repeat (first | exact List.Mem.head _ | apply List.Mem.tail))) | (repeat (first | assumption | apply Bor.cons))) (by omega)) rfl ?_
      refine vh_one 1 (by kernel_rfl) ?_
      refine st_det rfl .no (det_load_blk (by kernel_rfl) rfl (by repeat (first | exact .hd | apply Sel.tl)) rfl) rfl (by repeat (first | exact List.Sublist.refl _ | exact List.nil_sublist _ | apply List.Sublist.cons_cons | apply List.Sublist.cons)) ?_
      refine vh_one 6 (by kernel_rfl) ?_
      refine st_call rfl .no co32 rfl (rput_d hoS (by omega) ((tmF L i).getD j [])) rfl (by rintro _ _ ⟨A34, c34, rfl, rfl⟩; exact (by repeat (first | exact List.Sublist.refl _ | exact List.nil_sublist _ | apply List.Sublist.cons_cons | apply List.Sublist.cons))) ?_
      rintro _ _ ⟨A34, c34, rfl, hLL⟩
      obtain rfl := hLL.symm
      refine vh_take 7 rfl (by kernel_rfl) (by kernel_rfl) (by kernel_rfl) (det_fieldAddr_ Try.underlying29 rfl (by kernel_rfl) rfl rfl) rfl ?_
      refine vh_one 8 (by kernel_rfl) ?_
      refine st_eff0 rfl .no (eff_store (by kernel_rfl) rfl rfl rfl (by repeat (first | exact .hd | apply Sel.tl)) (by simp)) (by rintro _ _ rfl; exact (by repeat (first | exact List.Sublist.refl _ | exact List.nil_sublist _ | apply List.Sublist.cons_cons | apply List.Sublist.cons))) ?_
      rintro _ _ rfl
      refine vh_done [(0, _), (2, _), (3, _), (4, _), (5, _), (6, _)] ⟨rfl, rfl, rfl, rfl, rfl, rfl, trivial⟩ (by kernel_rfl) ?_
      refine in_normal ?_
      refine then_next ?_
      refine vc_region ?_
      refine vl_det (det_move rfl) rfl ?_
      refine vl_det (det_add rfl rfl (w_i64 (by omega) (by omega))) rfl ?_
      refine vl_det (det_assign rfl) rfl ?_
      refine vl_end [(0, _), (2, _), (3, _), (4, _), (5, _), (6, _)] ⟨rfl, rfl, rfl, rfl, rfl, rfl, trivial⟩ ?_
      refine in_loop_ ⟨_, by omega, j + 1, putL o2 ((tmF L i).getD j []), A34, c34, ⟨by omega, bld_step ho2 (by omega)⟩, rfl, ⟨(by first | rfl | exact int_to (by omega) | exact sl_to (by omega)), (by first | rfl | exact int_to (by omega) | exact sl_to (by omega)), (by first | rfl | exact int_to (by omega) | exact sl_to (by omega)), (by first | rfl | exact int_to (by omega) | exact sl_to (by omega)), (by first | rfl | exact int_to (by omega) | exact sl_to (by omega)), (by first | rfl | exact int_to (by omega) | exact sl_to (by omega)), trivial⟩, .refl _⟩
    · skip
      obtain rfl : j = (tmF L i).length := by omega
      refine vc_exit ?_
      refine then_exit ?_
      refine loop_exit ?_
      refine in_eq ?_
      refine in_normal ?_
      refine then_next ?_
      refine vc_region ?_
      refine vl_det (det_move rfl) rfl ?_
      refine vl_det (det_add rfl rfl (w_i64 (by omega) (by omega))) rfl ?_
      refine vl_det (det_assign rfl) rfl ?_
      refine vl_end [(0, _), (2, _), (3, _), (4, _)] ⟨rfl, rfl, rfl, rfl, trivial⟩ ?_
      refine in_loop_ ⟨_, by omega, i + 1, o2, A4, c4, ⟨by omega, ho2.trans bld_next⟩, rfl, ⟨(by first | rfl | exact int_to (by omega) | exact sl_to (by omega)), (by first | rfl | exact int_to (by omega) | exact sl_to (by omega)), (by first | rfl | exact int_to (by omega) | exact sl_to (by omega)), (by first | rfl | exact int_to (by omega) | exact sl_to (by omega)), trivial⟩, .cons (.cons (.skip (.refl _)))⟩
  · skip
    obtain rfl : i = L.length := by omega
    obtain rfl : o = bldT (tmF L) L.length := by rw [ho, List.take_zero, List.append_nil]; rfl
    obtain ⟨T, hT⟩ : ∃ T, T = bldT (tmF L) L.length := ⟨_, rfl⟩
    have hTl : T.length ≤ wsum L := by
      have := setT_len ((List.range L.length).flatMap (tmF L))
      rw [hT]; unfold bldT; omega
    have hbL : bldL (tmF L) L.length = T.map (lsF (tmF L) L.length) := by rw [hT]; rfl
    rw [hbL, ← hT]
    refine vc_exit ?_
    refine then_exit ?_
    refine loop_exit ?_
    refine in_eq ?_
    refine then_next ?_
    refine vc_seq ?_
    refine vc_seq ?_
    refine vc_region ?_
    refine vl_det (det_assign rfl) rfl ?_
    refine vl_end [(0, _), (2, _), (3, _), (7, _)] ⟨rfl, rfl, rfl, rfl, trivial⟩ ?_
    refine then_next ?_
    refine vc_block ?_
    refine vc_nil_row 37 1 none ?_
    refine vc_loopJ (fun zf zL zm => ∃ (k : Nat) (LL : List Lst) (A5 : Option Addr) (c5 : Nat), (k ≤ T.length ∧ LL.map (·.2.2) = (T.take k).map (lsF (tmF L) L.length) ∧ LL.length = k) ∧ T.length - k = zm ∧ Sub zf [(0, .slice A L.length c), (2, .pointer (some ⟨g2, 0, none⟩)), (3, .pointer (some ⟨g3, 0, none⟩)), (7, .int .i64 k)] ∧ Wk zL (.own 37 1 A5 k c5 (LL.map lVal) :: .own 9 1 A3 T.length c3 (strs T) :: .blk g3 29 [.slice A3 T.length c3, .slice A5 k c5] :: .blk g2 29 [.slice none 0 0, .slice none 0 0] :: (LL.map lRow ++ F))) _ ⟨0, [], none, 0, ⟨Nat.zero_le _, by simp, rfl⟩, rfl, ⟨(by first | rfl | exact int_to (by omega) | exact sl_to (by omega)), (by first | rfl | exact int_to (by omega) | exact sl_to (by omega)), (by first | rfl | exact int_to (by omega) | exact sl_to (by omega)), (by first | rfl | exact int_to (by omega) | exact sl_to (by omega)), trivial⟩, .refl _⟩ ?_
    rintro _ _ _ ⟨k, LL, A5, c5, ⟨hk, hLL, hLl⟩, rfl, hs, hp⟩
    refine vc_weaken _ hs (vc_wk hp ?_)
    clear hs hp
    refine vc_seq ?_
    refine vc_seq ?_
    refine vc_region ?_
    refine vl_det (det_move rfl) rfl ?_
    refine vl_det (det_fieldAddr_ Try.underlying29 rfl (by kernel_rfl) rfl rfl) rfl ?_
    refine vl_det (det_load_blk (by kernel_rfl) rfl (by repeat (first | exact .hd | apply Sel.tl)) rfl) rfl ?_
    refine vl_det (det_len_sl Try.underlying26 rfl) rfl ?_
    refine vl_det (det_lss rfl rfl) rfl ?_
    refine vl_end [(0, _), (2, _), (3, _), (7, _), (40, _)] ⟨rfl, rfl, rfl, rfl, rfl, trivial⟩ ?_
    refine then_next ?_
    refine vc_decideU rfl (fun h40 => ?_) (fun h40 => ?_)
    · skip
      have hb1 : Bor B w0 (LL.map lRow ++ F) 4 (.slice A L.length c) L.length (recs L) := hb.mono (List.sublist_append_right _ _)
      refine vc_skip ?_
      refine then_next ?_
      refine vc_seq ?_
      refine vc_block ?_
      refine vc_seq ?_
      refine vc_region ?_
      refine vl_det (det_assign rfl) rfl ?_
      refine vl_end [(0, _), (2, _), (3, _), (7, _), (8, _)] ⟨rfl, rfl, rfl, rfl, rfl, trivial⟩ ?_
      refine then_next ?_
      refine vc_seq ?_
      refine vc_seq ?_
      refine vc_nil_row 3 1 none ?_
      refine vc_region ?_
      refine vl_det (det_assign rfl) rfl ?_
      refine vl_end [(0, _), (2, _), (3, _), (7, _), (8, _), (9, _)] ⟨rfl, rfl, rfl, rfl, rfl, rfl, trivial⟩ ?_
      refine then_next ?_
      refine vc_block ?_
      refine vc_loopJ (fun zf zL zm => ∃ (i : Nat) (ids : List Nat) (A6 : Option Addr) (c6 : Nat), (i ≤ L.length ∧ ids = lsF (tmF L) i (T.getD k [])) ∧ L.length - i = zm ∧ Sub zf [(0, .slice A L.length c), (2, .pointer (some ⟨g2, 0, none⟩)), (3, .pointer (some ⟨g3, 0, none⟩)), (7, .int .i64 k), (8, .slice A6 ids.length c6), (9, .int .i64 i)] ∧ Wk zL (.own 3 1 A6 ids.length c6 (natv ids) :: .own 37 1 A5 k c5 (LL.map lVal) :: .own 9 1 A3 T.length c3 (strs T) :: .blk g3 29 [.slice A3 T.length c3, .slice A5 k c5] :: .blk g2 29 [.slice none 0 0, .slice none 0 0] :: (LL.map lRow ++ F))) _ ⟨0, [], none, 0, ⟨Nat.zero_le _, by simp [lsF]⟩, rfl, ⟨(by first | rfl | exact int_to (by omega) | exact sl_to (by omega)), (by first | rfl | exact int_to (by omega) | exact sl_to (by omega)), (by first | rfl | exact int_to (by omega) | exact sl_to (by omega)), (by first | rfl | exact int_to (by omega) | exact sl_to (by omega)), (by first | rfl | exact int_to (by omega) | exact sl_to (by omega)), (by first | rfl | exact int_to (by omega) | exact sl_to (by omega)), trivial⟩, .refl _⟩ ?_
      rintro _ _ _ ⟨i, ids, A6, c6, ⟨hi4, hid⟩, rfl, hs, hp⟩
      refine vc_weaken _ hs (vc_wk hp ?_)
      clear hs hp
      refine vc_seq ?_
      refine vc_seq ?_
      refine vc_region ?_
      refine vl_det (det_move rfl) rfl ?_
      refine vl_det (det_move rfl) rfl ?_
      refine vl_det (det_len_sl Try.underlying22 rfl) rfl ?_
      refine vl_det (det_lss rfl rfl) rfl ?_
      refine vl_end [(0, _), (2, _), (3, _), (7, _), (8, _), (9, _), (46, _)] ⟨rfl, rfl, rfl, rfl, rfl, rfl, rfl, trivial⟩ ?_
      refine then_next ?_
      refine vc_decideU rfl (fun h46 => ?_) (fun h46 => ?_)
      · skip
        have hrc := rec_cells (L := L) (k := i) (by omega)
        have hwi := wle (L := L) (i := i) (by omega)
        have hidl : ids.length ≤ i := by rw [hid]; unfold lsF; exact Nat.le_trans (List.length_filter_le _ _) (by simp)
        have hnx := lsF_succ (tmF L) i (T.getD k [])
        have htl := trm_len (recAt L i)
        refine vc_skip ?_
        refine then_next ?_
        refine vc_seq ?_
        refine vc_block ?_
        refine vc_seq ?_
        refine vh_region (S := .own 9 1 A3 T.length c3 (strs T) :: .blk g3 29 [.slice A3 T.length c3, .slice A5 k c5] :: (LL.map lRow ++ F)) (by kernel_rfl) (by repeat (first | exact List.Sublist.refl _ | exact List.nil_sublist _ | apply List.Sublist.cons_cons | apply List.Sublist.cons)) ?_
        refine vh_take 0 rfl (by kernel_rfl) (by kernel_rfl) (by kernel_rfl) (det_move rfl) rfl ?_
        refine vh_take 1 rfl (by kernel_rfl) (by kernel_rfl) (by kernel_rfl) (det_move rfl) rfl ?_
        refine vh_take 2 rfl (by kernel_rfl) (by kernel_rfl) (by kernel_rfl) (det_indexAddr (size := 4) Try.underlying22 (by kernel_rfl) rfl rfl rfl (by omega) (by first | (exact Bor.own (by repeat (first | exact List.Mem.head _ | apply List.Mem.tail))) | (repeat (first | assumption | apply Bor.cons)))) rfl ?_
        refine vh_take 3 rfl (by kernel_rfl) (by kernel_rfl) (by kernel_rfl) (det_load_rowa 4 (by kernel_rfl) rfl (by first | (exact Bor.own (by repeat (first | exact List.Mem.head _ | apply List.Mem.tail))) | (repeat (first | assumption | apply Bor.cons))) (by omega) (RecC.cells (recAt L i)) hrc rfl) rfl ?_
        refine vh_take 5 rfl (by kernel_rfl) (by kernel_rfl) (by kernel_rfl) (det_fieldAddr_ Try.underlying29 rfl (by kernel_rfl) rfl rfl) rfl ?_
        refine vh_take 6 rfl (by kernel_rfl) (by kernel_rfl) (by kernel_rfl) (det_load_blk (by kernel_rfl) rfl (by repeat (first | exact .hd | apply Sel.tl)) rfl) rfl ?_
        refine vh_take 7 rfl (by kernel_rfl) (by kernel_rfl) (by kernel_rfl) (det_move rfl) rfl ?_
        refine vh_take 8 rfl (by kernel_rfl) (by kernel_rfl) (by kernel_rfl) (det_indexAddr (size := 1) Try.underlying26 (by kernel_rfl) rfl rfl rfl (by omega) (by first | (exact Bor.own (by repeat (first | exact List.Mem.head _ | apply List.Mem.tail))) | (repeat (first | assumption | apply Bor.cons)))) rfl ?_
        refine vh_take 9 rfl (by kernel_rfl) (by kernel_rfl) (by kernel_rfl) (det_load_str (b := T) (j := k) (by kernel_rfl) rfl (by first | (exact Bor.own (by repeat (first | exact List.Mem.head _ | apply List.Mem.tail))) | (repeat (first | assumption | apply Bor.cons))) (by omega)) rfl ?_
        refine vh_one 4 (by kernel_rfl) ?_
        refine st_call rfl .no co31 rfl (rtrm_d (x := recAt L i) (by omega)) rfl (by rintro _ _ ⟨A53, c53, rfl, rfl⟩; exact (by repeat (first | exact List.Sublist.refl _ | exact List.nil_sublist _ | apply List.Sublist.cons_cons | apply List.Sublist.cons))) ?_
        rintro _ _ ⟨A53, c53, rfl, hLL⟩
        obtain rfl := hLL.symm
        refine vh_one 10 (by kernel_rfl) ?_
        refine st_call rfl .no co15 rfl (has15_d (T.getD k []) (by first | (exact Bor.own (by repeat (first | exact List.Mem.head _ | apply List.Mem.tail))) | (repeat (first | assumption | apply Bor.cons))) (by omega)) rfl (by rintro _ _ ⟨rfl, rfl⟩; exact (by repeat (first | exact List.Sublist.refl _ | exact List.nil_sublist _ | apply List.Sublist.cons_cons | apply List.Sublist.cons))) ?_
        rintro _ _ ⟨rfl, hLL⟩
        obtain rfl := hLL.symm
        refine vh_done [(0, _), (2, _), (3, _), (7, _), (8, _), (9, _), (59, _)] ⟨rfl, rfl, rfl, rfl, rfl, rfl, rfl, trivial⟩ (by kernel_rfl) ?_
        refine then_next ?_
        refine vc_decideU rfl (fun h59 => ?_) (fun h59 => ?_)
        · skip
          refine vc_region ?_
          refine vl_det (det_move rfl) rfl ?_
          refine vl_det (det_move rfl) rfl ?_
          refine vl_push slT37 rfl rfl rfl rfl rfl (fun _ => rfl) (by repeat (first | exact .hd | apply Sel.tl)) (by omega) (by omega) ?_
          intro _ A63 c63
          refine vl_det (det_assign rfl) rfl ?_
          refine vl_end [(0, _), (2, _), (3, _), (7, _), (8, _), (9, _)] ⟨rfl, rfl, rfl, rfl, rfl, rfl, trivial⟩ ?_
          refine in_normal ?_
          refine then_next ?_
          refine vc_region ?_
          refine vl_det (det_move rfl) rfl ?_
          refine vl_det (det_add rfl rfl (w_i64 (by omega) (by omega))) rfl ?_
          refine vl_det (det_assign rfl) rfl ?_
          refine vl_end [(0, _), (2, _), (3, _), (7, _), (8, _), (9, _)] ⟨rfl, rfl, rfl, rfl, rfl, rfl, trivial⟩ ?_
          have hel : (ids ++ [i]).length = ids.length + 1 := by simp
          refine in_loop_ ⟨_, by omega, i + 1, ids ++ [i], A63, c63, ⟨by omega, by rw [hnx, hid, if_pos (show T.getD k [] ∈ tmF L i from h59)]⟩, rfl, ⟨(by first | rfl | exact int_to (by omega) | exact sl_to (by omega)), (by first | rfl | exact int_to (by omega) | exact sl_to (by omega)), (by first | rfl | exact int_to (by omega) | exact sl_to (by omega)), (by first | rfl | exact int_to (by omega) | exact sl_to (by omega)), (by first | rfl | exact int_to (by omega) | exact sl_to (by omega)), (by first | rfl | exact int_to (by omega) | exact sl_to (by omega)), trivial⟩, .skip (wk_own (by simp) (by simp [natv]) (.refl _))⟩
        · skip
          refine vc_skip ?_
          refine in_normal ?_
          refine then_next ?_
          refine vc_region ?_
          refine vl_det (det_move rfl) rfl ?_
          refine vl_det (det_add rfl rfl (w_i64 (by omega) (by omega))) rfl ?_
          refine vl_det (det_assign rfl) rfl ?_
          refine vl_end [(0, _), (2, _), (3, _), (7, _), (8, _), (9, _)] ⟨rfl, rfl, rfl, rfl, rfl, rfl, trivial⟩ ?_
          refine in_loop_ ⟨_, by omega, i + 1, ids, A6, c6, ⟨by omega, by rw [hnx, hid, if_neg (show ¬ T.getD k [] ∈ tmF L i from h59), List.append_nil]⟩, rfl, ⟨(by first | rfl | exact int_to (by omega) | exact sl_to (by omega)), (by first | rfl | exact int_to (by omega) | exact sl_to (by omega)), (by first | rfl | exact int_to (by omega) | exact sl_to (by omega)), (by first | rfl | exact int_to (by omega) | exact sl_to (by omega)), (by first | rfl | exact int_to (by omega) | exact sl_to (by omega)), (by first | rfl | exact int_to (by omega) | exact sl_to (by omega)), trivial⟩, .skip (.refl _)⟩
      · skip
        obtain rfl : i = L.length := by omega
        have htk : T.take (k + 1) = T.take k ++ [T.getD k []] := by
          rw [List.take_add_one, List.getElem?_eq_getElem (show k < T.length by omega)]; simp [List.getD, List.getElem?_eq_getElem (show k < T.length by omega)]
        refine vc_exit ?_
        refine then_exit ?_
        refine loop_exit ?_
        refine in_eq ?_
        refine then_next ?_
        refine vc_region ?_
        refine vl_det (det_fieldAddr_ Try.underlying29 rfl (by kernel_rfl) rfl rfl) rfl ?_
        refine vl_det (det_load_blk (by kernel_rfl) rfl (by repeat (first | exact .hd | apply Sel.tl)) rfl) rfl ?_
        refine vl_det (det_move rfl) rfl ?_
        refine vl_push slT27 rfl rfl rfl rfl rfl (fun _ => rfl) (by repeat (first | exact .hd | apply Sel.tl)) (by omega) (by omega) ?_
        intro _ A68 c68
        refine vl_det (det_fieldAddr_ Try.underlying29 rfl (by kernel_rfl) rfl rfl) rfl ?_
        refine vl_eff0 (eff_store (by kernel_rfl) rfl rfl rfl (by repeat (first | exact .hd | apply Sel.tl)) (by simp)) ?_
        rintro _ _ rfl
        refine vl_end [(0, _), (2, _), (3, _), (7, _)] ⟨rfl, rfl, rfl, rfl, trivial⟩ ?_
        refine in_normal ?_
        refine then_next ?_
        refine vc_region ?_
        refine vl_det (det_move rfl) rfl ?_
        refine vl_det (det_add rfl rfl (w_i64 (by omega) (by omega))) rfl ?_
        refine vl_det (det_assign rfl) rfl ?_
        refine vl_end [(0, _), (2, _), (3, _), (7, _)] ⟨rfl, rfl, rfl, rfl, trivial⟩ ?_
        refine in_loop_ ⟨_, by omega, k + 1, LL ++ [(A6, c6, ids)], A68, c68, ⟨by omega, by rw [List.map_append, hLL, htk, List.map_append, hid]; rfl, by simp [hLl]⟩, rfl, ⟨(by first | rfl | exact int_to (by omega) | exact sl_to (by omega)), (by first | rfl | exact int_to (by omega) | exact sl_to (by omega)), (by first | rfl | exact int_to (by omega) | exact sl_to (by omega)), (by first | rfl | exact int_to (by omega) | exact sl_to (by omega)), trivial⟩, .swap (wk_own rfl (by simp) (wk_row (LL := LL) (e := (A6, c6, ids)) [.own 9 1 A3 T.length c3 (strs T), .blk g3 29 [.slice A3 T.length c3, .slice A68 (k + 1) c68], .blk g2 29 [.slice none 0 0, .slice none 0 0]]))⟩
    · skip
      obtain rfl : k = T.length := by omega
      rw [List.take_length] at hLL
      refine vc_exit ?_
      refine then_exit ?_
      refine loop_exit ?_
      refine in_eq ?_
      refine then_next ?_
      refine vc_seq ?_
      refine vc_region ?_
      refine vl_det (det_load_whole 2 (by kernel_rfl) rfl (by repeat (first | exact .hd | apply Sel.tl)) (by first | rfl | (simp; omega) | (simp [*]; done))) rfl ?_
      refine vl_eff0 (eff_store_whole 2 (by kernel_rfl) rfl rfl (by first | exact bv_one _ | exact strs_one _ | exact ints_one _ _ | (simp; done) | (simp [Value.oneCell']; done) | assumption) (by repeat (first | exact .hd | apply Sel.tl)) (by first | rfl | (simp; omega) | (simp [*]; done)) (by first | rfl | (simp; omega) | (simp [*]; done))) ?_
      rintro _ _ rfl
      refine vl_end [(2, _)] ⟨rfl, trivial⟩ ?_
      refine then_next ?_
      refine vc_ret ?_
      refine ret_c rfl rfl (by kernel_rfl) (by repeat (first | exact .hd | apply Sel.tl)) (by first | rfl | (simp; omega) | (simp [*]; done)) (.swap (.cons (.cons (.skip (.skip (.refl _)))))) ?_
      exact ⟨A3, c3, A5, c5, LL, rfl, rfl, hLL⟩
end Go.Proofs.Ytpamjobiohbibaa
