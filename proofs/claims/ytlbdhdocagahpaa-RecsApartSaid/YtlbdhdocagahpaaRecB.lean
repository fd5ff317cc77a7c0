/-
  The bytes of one record and of records, by frames. Condition: the log's weight is below 10^11.
-/
import Derived.Test.YtlbdhdocagahpaaRecW
import Derived.Test.YtlbdhdocagahpaaRNumD
import Derived.Test.YtlbdhdocagahpaaTextD
import Derived.Test.YtlbdhdocagahpaaConcat
namespace Go.Proofs.Ytlbdhdocagahpaa
open Go.RowKit
set_option linter.unusedVariables false
set_option maxRecDepth 20000
variable {B : Nat} {w0 : World} {F : List Ch} {A : Option Addr} {n c : Nat}
/-- nums.All as a contract of pieces -/
theorem all_d {P : Parts} {l : List UInt8} (hb : Bor B w0 F 1 (.slice A n c) n P.vals) (hP : ∀ x ∈ P, Bor B w0 F 1 x.1 x.2.length (bv x.2)) (hn : n = P.length) (hall : P.all = l) (hlen : l.length ≤ 1099511627776) (hPl : P.length ≤ 1099511627776) :
    Does Try.prog B w0 54 [.slice A n c] F (fun r L => ∃ A' c', r = .slice A' l.length c' ∧ L = .own 5 1 A' l.length c' (bv l) :: F) := by
  subst hall
  exact Does.of_own fun w hw => all_c (B := w.heap.size) w hn (hb w hw) (fun x hx => hP x hx w hw) (Nat.le_refl _) hlen hPl
def recHead (b : Bool) (x : RecC) : List UInt8 := if b = true then encN x.1 ++ [x.2.1] else []
def recB (b : Bool) (x : RecC) : List UInt8 := recHead b x ++ encT x.2.2.1 ++ encT x.2.2.2
def recsB (b : Bool) (L : List RecC) : List UInt8 := L.flatMap (recB b)
theorem encT_len {s : List UInt8} (h : s.length ≤ 100000000000) : (encT s).length ≤ s.length + 10 := by
  have := encN_len10 (x := s.length) (by omega)
  unfold encT
  rw [List.length_append]; omega
theorem recHead_len {b : Bool} {x : RecC} (hx : x.1 < 18446744073709551616) : (recHead b x).length ≤ 11 := by
  have := encN_len10 hx
  unfold recHead
  split
  · simp; omega
  · simp
theorem recB_len {b : Bool} {x : RecC} (hx : x.1 < 18446744073709551616) (hw : x.w ≤ 100000000000) : (recB b x).length ≤ 2 * x.w := by
  have h := @recHead_len b x hx
  unfold RecC.w at hw ⊢
  have h1 := encT_len (s := x.2.2.1) (by omega)
  have h2 := encT_len (s := x.2.2.2) (by omega)
  unfold recB
  rw [List.length_append, List.length_append]; omega
theorem recsB_snoc (b : Bool) (L : List RecC) (x : RecC) : recsB b (L ++ [x]) = recsB b L ++ recB b x := by simp [recsB]
theorem recsB_take {b : Bool} {L : List RecC} {k : Nat} (h : k < L.length) : recsB b (L.take (k + 1)) = recsB b (L.take k) ++ recB b (recAt L k) := by
  rw [take_getD h (0, 0, [], []), recsB_snoc]; rfl
theorem wsum_cons (x : RecC) (L : List RecC) : wsum (x :: L) = x.w + wsum L := by simp [wsum]
theorem len_wsum : ∀ L : List RecC, 16 * L.length ≤ wsum L
  | [] => by simp
  | x :: L => by
    have := len_wsum L
    rw [wsum_cons, List.length_cons]
    unfold RecC.w
    omega
theorem recsB_len {b : Bool} : ∀ {L : List RecC}, (∀ x ∈ L, x.1 < 18446744073709551616) → wsum L ≤ 100000000000 → (recsB b L).length ≤ 2 * wsum L
  | [], _, _ => by simp [recsB]
  | x :: L, hx, hw => by
    rw [wsum_cons] at hw ⊢
    have h1 := recB_len (b := b) (hx x (by simp)) (by omega)
    have h2 := recsB_len (b := b) (fun y hy => hx y (by simp [hy])) (by omega : wsum L ≤ 100000000000)
    simp only [recsB, List.flatMap_cons, List.length_append] at h2 ⊢
    omega
theorem w_le {L : List RecC} {k : Nat} (h : k < L.length) : (recAt L k).w ≤ wsum L := by
  have h1 := wsum_take h
  have h2 := wsum_le L (k + 1)
  omega
theorem recAt_lt {L : List RecC} (h : ∀ x ∈ L, x.1 < 18446744073709551616) {k : Nat} (hk : k < L.length) : (recAt L k).1 < 18446744073709551616 := h _ (getD_mem hk _)
theorem one_d (b : Bool) (x : RecC) (hx : x.1 < 18446744073709551616) (hw : x.w ≤ 100000000000) :
    Does Try.prog B w0 33 [.bool b, .agg (RecC.cells x).toArray] F (fun r L => ∃ A' c', r = .slice A' (recB b x).length c' ∧ L = .own 5 1 A' (recB b x).length c' (bv (recB b x)) :: F) := by
  have h10 := encN_len10 hx
  have hrl := @recHead_len b x hx
  have hrb := recB_len (b := b) hx hw
  have hw' := hw
  unfold RecC.w at hw'
  have hl1 := encT_len (s := x.2.2.1) (by omega)
  have hl2 := encT_len (s := x.2.2.2) (by omega)
  refine fn_walk Try.func33 23 rfl rfl rfl [(0, .bool b), (1, .agg (RecC.cells x).toArray)] ⟨⟨rfl, rfl⟩, ⟨rfl, rfl⟩, trivial⟩ ?_
  refine vc_seq ?_
  refine vc_region ?_
  refine vl_eff (eff_box rfl rfl) rfl ?_
  rintro _ _ ⟨g3, rfl, rfl⟩
  refine vl_det (det_assign rfl) rfl ?_
  refine vl_end [(0, _), (3, _)] ⟨rfl, rfl, trivial⟩ ?_
  refine then_next ?_
  refine vc_seq ?_
  refine vc_nil_row 5 1 none ?_
  refine vc_region ?_
  refine vl_det (det_assign rfl) rfl ?_
  refine vl_end [(0, _), (3, _), (5, _)] ⟨rfl, rfl, rfl, trivial⟩ ?_
  refine then_next ?_
  refine vc_seqJ (fun zf zL => ∃ (A5 : Option Addr) (c5 : Nat), Sub zf [(3, .pointer (some ⟨g3, 0, none⟩)), (5, .slice A5 (recHead b x).length c5)] ∧ Wk zL (.own 5 1 A5 (recHead b x).length c5 (bv (recHead b x)) :: .blk g3 44 (RecC.cells x) :: F)) ?_ ?_
  · skip
    refine vc_seq ?_
    refine vc_region ?_
    refine vl_det (det_move rfl) rfl ?_
    refine vl_end [(3, _), (5, _), (6, _)] ⟨rfl, rfl, rfl, trivial⟩ ?_
    refine then_next ?_
    refine vc_condU rfl (fun h6 => ?_) (fun h6 => ?_)
    · skip
      have hb' : recHead b x = encN x.1 ++ [x.2.1] := if_pos h6
      refine vh_region (S := .blk g3 44 (RecC.cells x) :: F) (by kernel_rfl) (by repeat (first | exact List.Sublist.refl _ | exact List.nil_sublist _ | apply List.Sublist.cons_cons | apply List.Sublist.cons)) ?_
      refine vh_take 0 rfl (by kernel_rfl) (by kernel_rfl) (by kernel_rfl) (det_fieldAddr_ Try.underlying44 rfl (by kernel_rfl) rfl rfl) rfl ?_
      refine vh_take 1 rfl (by kernel_rfl) (by kernel_rfl) (by kernel_rfl) (det_load_blk (by kernel_rfl) rfl (by repeat (first | exact .hd | apply Sel.tl)) rfl) rfl ?_
      refine vh_take 3 rfl (by kernel_rfl) (by kernel_rfl) (by kernel_rfl) (det_fieldAddr_ Try.underlying44 rfl (by kernel_rfl) rfl rfl) rfl ?_
      refine vh_take 4 rfl (by kernel_rfl) (by kernel_rfl) (by kernel_rfl) (det_load_blk (by kernel_rfl) rfl (by repeat (first | exact .hd | apply Sel.tl)) rfl) rfl ?_
      refine vh_two 2 5 (by kernel_rfl) ?_ ?_
      · skip
        refine st_call rfl .no co44 rfl (num_d x.1 hx) rfl (by rintro _ _ ⟨A9, c9, rfl, rfl⟩; exact (by repeat (first | exact List.Sublist.refl _ | exact List.nil_sublist _ | apply List.Sublist.cons_cons | apply List.Sublist.cons))) ?_
        rintro _ _ ⟨A9, c9, rfl, hLL⟩
        obtain rfl := hLL.symm
        refine vh_one 5 (by kernel_rfl) ?_
        refine st_eff rfl .no (eff_build_lit slT32 [_] rfl rfl (by first | exact bv_one _ | exact strs_one _ | exact ints_one _ _ | (simp; done) | (simp [Value.oneCell']; done) | assumption) (by omega) (by omega)) rfl (by rintro _ _ ⟨A12, rfl, rfl⟩; exact (by repeat (first | exact List.Sublist.refl _ | exact List.nil_sublist _ | apply List.Sublist.cons_cons | apply List.Sublist.cons))) ?_
        rintro _ _ ⟨A12, rfl, rfl⟩
        refine vh_one 6 (by kernel_rfl) ?_
        refine st_eff rfl .no (eff_app slT32 rfl (by repeat (first | exact .hd | apply Sel.tl)) rfl (by first | (exact Bor.own (by repeat (first | exact List.Mem.head _ | apply List.Mem.tail))) | (repeat (first | assumption | apply Bor.cons))) (by first | exact bv_one _ | exact strs_one _ | exact ints_one _ _ | (simp; done) | (simp [Value.oneCell']; done) | assumption) (by omega) (by omega)) rfl (by rintro _ _ ⟨A13, c13, rfl, rfl⟩; exact (by repeat (first | exact List.Sublist.refl _ | exact List.nil_sublist _ | apply List.Sublist.cons_cons | apply List.Sublist.cons))) ?_
        rintro _ _ ⟨A13, c13, rfl, rfl⟩
        rw [show (encN x.1).length + 1 = (recHead b x).length by rw [hb']; simp]
        refine vh_take 7 rfl (by kernel_rfl) (by kernel_rfl) (by kernel_rfl) (det_assign rfl) rfl ?_
        refine vh_done [(3, _), (5, _)] ⟨rfl, rfl, trivial⟩ (by kernel_rfl) ?_
        exact in_join ⟨A13, c13, ⟨(by first | rfl | exact int_to (by omega) | exact sl_to (by omega)), (by first | rfl | exact int_to (by omega) | exact sl_to (by omega)), trivial⟩, .skip (wk_own rfl (by rw [hb']; simp [bv]) (.skip (.refl _)))⟩
      · skip
        refine st_eff rfl .no (eff_build_lit slT32 [_] rfl rfl (by first | exact bv_one _ | exact strs_one _ | exact ints_one _ _ | (simp; done) | (simp [Value.oneCell']; done) | assumption) (by omega) (by omega)) rfl (by rintro _ _ ⟨A12, rfl, rfl⟩; exact (by repeat (first | exact List.Sublist.refl _ | exact List.nil_sublist _ | apply List.Sublist.cons_cons | apply List.Sublist.cons))) ?_
        rintro _ _ ⟨A12, rfl, rfl⟩
        refine vh_one 2 (by kernel_rfl) ?_
        refine st_call rfl .no co44 rfl (num_d x.1 hx) rfl (by rintro _ _ ⟨A9, c9, rfl, rfl⟩; exact (by repeat (first | exact List.Sublist.refl _ | exact List.nil_sublist _ | apply List.Sublist.cons_cons | apply List.Sublist.cons))) ?_
        rintro _ _ ⟨A9, c9, rfl, hLL⟩
        obtain rfl := hLL.symm
        refine vh_one 6 (by kernel_rfl) ?_
        refine st_eff rfl .no (eff_app slT32 rfl (by repeat (first | exact .hd | apply Sel.tl)) rfl (by first | (exact Bor.own (by repeat (first | exact List.Mem.head _ | apply List.Mem.tail))) | (repeat (first | assumption | apply Bor.cons))) (by first | exact bv_one _ | exact strs_one _ | exact ints_one _ _ | (simp; done) | (simp [Value.oneCell']; done) | assumption) (by omega) (by omega)) rfl (by rintro _ _ ⟨A13, c13, rfl, rfl⟩; exact (by repeat (first | exact List.Sublist.refl _ | exact List.nil_sublist _ | apply List.Sublist.cons_cons | apply List.Sublist.cons))) ?_
        rintro _ _ ⟨A13, c13, rfl, rfl⟩
        rw [show (encN x.1).length + 1 = (recHead b x).length by rw [hb']; simp]
        refine vh_take 7 rfl (by kernel_rfl) (by kernel_rfl) (by kernel_rfl) (det_assign rfl) rfl ?_
        refine vh_done [(3, _), (5, _)] ⟨rfl, rfl, trivial⟩ (by kernel_rfl) ?_
        exact in_join ⟨A13, c13, ⟨(by first | rfl | exact int_to (by omega) | exact sl_to (by omega)), (by first | rfl | exact int_to (by omega) | exact sl_to (by omega)), trivial⟩, wk_own rfl (by rw [hb']; simp [bv]) (.skip (.skip (.refl _)))⟩
    · skip
      have hb' : recHead b x = [] := if_neg (by simpa using h6)
      have hb0 : (recHead b x).length = 0 := by rw [hb']; rfl
      refine vc_skip ?_
      exact in_join ⟨none, 0, ⟨(by first | rfl | exact int_to (by omega) | exact sl_to (by omega)), (by first | rfl | exact int_to (by omega) | exact sl_to (by omega)), trivial⟩, wk_own (by rw [hb']; rfl) (by rw [hb']; rfl) (.refl _)⟩
  · rintro _ _ ⟨A5, c5, hs, hp⟩
    refine vc_weaken _ hs (vc_wk hp ?_)
    clear hs hp
    refine vc_seq ?_
    refine vh_region (S := .own 5 1 A5 (recHead b x).length c5 (bv (recHead b x)) :: .blk g3 44 (RecC.cells x) :: F) (by kernel_rfl) (by repeat (first | exact List.Sublist.refl _ | exact List.nil_sublist _ | apply List.Sublist.cons_cons | apply List.Sublist.cons)) ?_
    refine vh_take 0 rfl (by kernel_rfl) (by kernel_rfl) (by kernel_rfl) (det_move rfl) rfl ?_
    refine vh_take 1 rfl (by kernel_rfl) (by kernel_rfl) (by kernel_rfl) (det_fieldAddr_ Try.underlying44 rfl (by kernel_rfl) rfl rfl) rfl ?_
    refine vh_take 2 rfl (by kernel_rfl) (by kernel_rfl) (by kernel_rfl) (det_load_blk (by kernel_rfl) rfl (by repeat (first | exact .hd | apply Sel.tl)) rfl) rfl ?_
    refine vh_take 4 rfl (by kernel_rfl) (by kernel_rfl) (by kernel_rfl) (det_fieldAddr_ Try.underlying44 rfl (by kernel_rfl) rfl rfl) rfl ?_
    refine vh_take 5 rfl (by kernel_rfl) (by kernel_rfl) (by kernel_rfl) (det_load_blk (by kernel_rfl) rfl (by repeat (first | exact .hd | apply Sel.tl)) rfl) rfl ?_
    refine vh_one 3 (by kernel_rfl) ?_
    refine st_call rfl .no co55 rfl (text_d _ (by omega)) rfl (by rintro _ _ ⟨A17, c17, rfl, rfl⟩; exact (by repeat (first | exact List.Sublist.refl _ | exact List.nil_sublist _ | apply List.Sublist.cons_cons | apply List.Sublist.cons))) ?_
    rintro _ _ ⟨A17, c17, rfl, hLL⟩
    obtain rfl := hLL.symm
    refine vh_one 6 (by kernel_rfl) ?_
    refine st_call rfl .no co55 rfl (text_d _ (by omega)) rfl (by rintro _ _ ⟨A20, c20, rfl, rfl⟩; exact (by repeat (first | exact List.Sublist.refl _ | exact List.nil_sublist _ | apply List.Sublist.cons_cons | apply List.Sublist.cons))) ?_
    rintro _ _ ⟨A20, c20, rfl, hLL⟩
    obtain rfl := hLL.symm
    refine vh_one 7 (by kernel_rfl) ?_
    refine st_eff rfl .no (eff_build_lit slT93 [_, _, _] rfl rfl (by first | exact bv_one _ | exact strs_one _ | exact ints_one _ _ | (simp; done) | (simp [Value.oneCell']; done) | assumption) (by omega) (by omega)) rfl (by rintro _ _ ⟨A21, rfl, rfl⟩; exact (by repeat (first | exact List.Sublist.refl _ | exact List.nil_sublist _ | apply List.Sublist.cons_cons | apply List.Sublist.cons))) ?_
    rintro _ _ ⟨A21, rfl, rfl⟩
    refine vh_one 8 (by kernel_rfl) ?_
    refine st_call rfl .no co54 rfl (all_d (l := recB b x) (P := [(.slice A5 (recHead b x).length c5, recHead b x), (.slice A17 (encT x.2.2.1).length c17, encT x.2.2.1), (.slice A20 (encT x.2.2.2).length c20, encT x.2.2.2)]) (by first | (exact Bor.own (by repeat (first | exact List.Mem.head _ | apply List.Mem.tail))) | (repeat (first | assumption | apply Bor.cons))) (by intro y hy; simp only [List.mem_cons, List.not_mem_nil, or_false] at hy; rcases hy with rfl | rfl | rfl <;> exact (by first | (exact Bor.own (by repeat (first | exact List.Mem.head _ | apply List.Mem.tail))) | (repeat (first | assumption | apply Bor.cons)))) rfl (by simp [Parts.all, recB]) (by unfold RecC.w at hrb; omega) (by simp)) rfl (by rintro _ _ ⟨A22, c22, rfl, rfl⟩; exact (by repeat (first | exact List.Sublist.refl _ | exact List.nil_sublist _ | apply List.Sublist.cons_cons | apply List.Sublist.cons))) ?_
    rintro _ _ ⟨A22, c22, rfl, hLL⟩
    obtain rfl := hLL.symm
    refine vh_take 9 rfl (by kernel_rfl) (by kernel_rfl) (by kernel_rfl) (det_assign rfl) rfl ?_
    refine vh_done [(4, _)] ⟨rfl, trivial⟩ (by kernel_rfl) ?_
    refine then_next ?_
    refine vc_ret ?_
    refine ret_wk (L' := .own 5 1 A22 (recB b x).length c22 (bv (recB b x)) :: F) (.cons (.skip (.skip (.skip (.skip (.skip (.refl _))))))) ?_
    refine ret1 rfl rfl ?_
    exact ⟨A22, c22, rfl, rfl⟩
theorem rone_d (b : Bool) (x : RecC) (hx : x.1 < 18446744073709551616) (hw : x.w ≤ 100000000000) :
    Does Try.prog B w0 34 [.bool b, .agg (RecC.cells x).toArray] F (fun r L => ∃ A' c', r = .slice A' (recB b x).length c' ∧ L = .own 5 1 A' (recB b x).length c' (bv (recB b x)) :: F) := by
  have h10 := encN_len10 hx
  have hrl := @recHead_len b x hx
  have hw' := hw
  unfold RecC.w at hw'
  have hl1 := encT_len (s := x.2.2.1) (by omega)
  have hl2 := encT_len (s := x.2.2.2) (by omega)
  refine fn_walk Try.func34 27 rfl rfl rfl [(0, .bool b), (1, .agg (RecC.cells x).toArray)] ⟨⟨rfl, rfl⟩, ⟨rfl, rfl⟩, trivial⟩ ?_
  refine vc_seq ?_
  refine vc_region ?_
  refine vl_eff (eff_box rfl rfl) rfl ?_
  rintro _ _ ⟨g3, rfl, rfl⟩
  refine vl_det (det_assign rfl) rfl ?_
  refine vl_end [(0, _), (3, _)] ⟨rfl, rfl, trivial⟩ ?_
  refine then_next ?_
  refine vc_seq ?_
  refine vc_nil_row 5 1 none ?_
  refine vc_region ?_
  refine vl_det (det_assign rfl) rfl ?_
  refine vl_end [(0, _), (3, _), (5, _)] ⟨rfl, rfl, rfl, trivial⟩ ?_
  refine then_next ?_
  refine vc_seqJ (fun zf zL => ∃ (A5 : Option Addr) (c5 : Nat), Sub zf [(3, .pointer (some ⟨g3, 0, none⟩)), (5, .slice A5 (recHead b x).length c5)] ∧ Wk zL (.own 5 1 A5 (recHead b x).length c5 (bv (recHead b x)) :: .blk g3 44 (RecC.cells x) :: F)) ?_ ?_
  · skip
    refine vc_seq ?_
    refine vc_region ?_
    refine vl_det (det_move rfl) rfl ?_
    refine vl_end [(3, _), (5, _), (6, _)] ⟨rfl, rfl, rfl, trivial⟩ ?_
    refine then_next ?_
    refine vc_condU rfl (fun h6 => ?_) (fun h6 => ?_)
    · skip
      have hb' : recHead b x = encN x.1 ++ [x.2.1] := if_pos h6
      refine vc_seq ?_
      refine vc_region ?_
      refine vl_det (det_move rfl) rfl ?_
      refine vl_det (det_fieldAddr_ Try.underlying44 rfl (by kernel_rfl) rfl rfl) rfl ?_
      refine vl_det (det_load_blk (by kernel_rfl) rfl (by repeat (first | exact .hd | apply Sel.tl)) rfl) rfl ?_
      refine vl_call co46 rfl (rnum_d x.1 hx) rfl ?_
      rintro _ _ ⟨A10, c10, rfl, hLL⟩
      obtain rfl := hLL.symm
      refine vl_eff (eff_app slT32 rfl (by repeat (first | exact .hd | apply Sel.tl)) rfl (by first | (exact Bor.own (by repeat (first | exact List.Mem.head _ | apply List.Mem.tail))) | (repeat (first | assumption | apply Bor.cons))) (by first | exact bv_one _ | exact strs_one _ | exact ints_one _ _ | (simp; done) | (simp [Value.oneCell']; done) | assumption) (by omega) (by omega)) rfl ?_
      rintro _ _ ⟨A11, c11, rfl, rfl⟩
      refine vl_det (det_assign rfl) rfl ?_
      refine vl_end [(3, _), (5, _)] ⟨rfl, rfl, trivial⟩ ?_
      refine then_next ?_
      refine vc_region ?_
      refine vl_det (det_move rfl) rfl ?_
      refine vl_det (det_fieldAddr_ Try.underlying44 rfl (by kernel_rfl) rfl rfl) rfl ?_
      refine vl_det (det_load_blk (by kernel_rfl) rfl (by repeat (first | exact .hd | apply Sel.tl)) rfl) rfl ?_
      refine vl_push slT32 rfl rfl rfl rfl rfl (fun _ => rfl) (by repeat (first | exact .hd | apply Sel.tl)) (by omega) (by omega) ?_
      intro _ A16 c16
      rw [show 0 + (encN x.1).length + 1 = (recHead b x).length by rw [hb']; simp]
      refine vl_det (det_assign rfl) rfl ?_
      refine vl_end [(3, _), (5, _)] ⟨rfl, rfl, trivial⟩ ?_
      exact in_join ⟨A16, c16, ⟨(by first | rfl | exact int_to (by omega) | exact sl_to (by omega)), (by first | rfl | exact int_to (by omega) | exact sl_to (by omega)), trivial⟩, .skip (wk_own rfl (by rw [hb']; simp [bv]) (.refl _))⟩
    · skip
      have hb' : recHead b x = [] := if_neg (by simpa using h6)
      have hb0 : (recHead b x).length = 0 := by rw [hb']; rfl
      refine vc_skip ?_
      exact in_join ⟨none, 0, ⟨(by first | rfl | exact int_to (by omega) | exact sl_to (by omega)), (by first | rfl | exact int_to (by omega) | exact sl_to (by omega)), trivial⟩, wk_own (by rw [hb']; rfl) (by rw [hb']; rfl) (.refl _)⟩
  · rintro _ _ ⟨A5, c5, hs, hp⟩
    refine vc_weaken _ hs (vc_wk hp ?_)
    clear hs hp
    refine vc_seq ?_
    refine vc_region ?_
    refine vl_det (det_move rfl) rfl ?_
    refine vl_det (det_fieldAddr_ Try.underlying44 rfl (by kernel_rfl) rfl rfl) rfl ?_
    refine vl_det (det_load_blk (by kernel_rfl) rfl (by repeat (first | exact .hd | apply Sel.tl)) rfl) rfl ?_
    refine vl_call co56 rfl (rtext_d _ (by omega)) rfl ?_
    rintro _ _ ⟨A20, c20, rfl, hLL⟩
    obtain rfl := hLL.symm
    refine vl_eff (eff_app slT32 rfl (by repeat (first | exact .hd | apply Sel.tl)) rfl (by first | (exact Bor.own (by repeat (first | exact List.Mem.head _ | apply List.Mem.tail))) | (repeat (first | assumption | apply Bor.cons))) (by first | exact bv_one _ | exact strs_one _ | exact ints_one _ _ | (simp; done) | (simp [Value.oneCell']; done) | assumption) (by omega) (by omega)) rfl ?_
    rintro _ _ ⟨A21, c21, rfl, rfl⟩
    refine vl_det (det_assign rfl) rfl ?_
    refine vl_end [(3, _), (5, _)] ⟨rfl, rfl, trivial⟩ ?_
    refine then_next ?_
    refine vc_seq ?_
    refine vc_region ?_
    refine vl_det (det_move rfl) rfl ?_
    refine vl_det (det_fieldAddr_ Try.underlying44 rfl (by kernel_rfl) rfl rfl) rfl ?_
    refine vl_det (det_load_blk (by kernel_rfl) rfl (by repeat (first | exact .hd | apply Sel.tl)) rfl) rfl ?_
    refine vl_call co56 rfl (rtext_d _ (by omega)) rfl ?_
    rintro _ _ ⟨A25, c25, rfl, hLL⟩
    obtain rfl := hLL.symm
    refine vl_eff (eff_app slT32 rfl (by repeat (first | exact .hd | apply Sel.tl)) rfl (by first | (exact Bor.own (by repeat (first | exact List.Mem.head _ | apply List.Mem.tail))) | (repeat (first | assumption | apply Bor.cons))) (by first | exact bv_one _ | exact strs_one _ | exact ints_one _ _ | (simp; done) | (simp [Value.oneCell']; done) | assumption) (by omega) (by omega)) rfl ?_
    rintro _ _ ⟨A26, c26, rfl, rfl⟩
    refine vl_det (det_assign rfl) rfl ?_
    refine vl_end [(4, _)] ⟨rfl, trivial⟩ ?_
    refine then_next ?_
    refine vc_ret ?_
    have e : (recHead b x).length + (encT x.2.2.1).length + (encT x.2.2.2).length = (recB b x).length := by unfold recB; rw [List.length_append, List.length_append]
    rw [e]
    refine ret_wk (L' := .own 5 1 A26 (recB b x).length c26 (bv (recB b x)) :: F) (.skip (.skip (wk_own rfl (by simp [recB]) (.skip (.refl _))))) ?_
    refine ret1 rfl rfl ?_
    exact ⟨A26, c26, rfl, rfl⟩
theorem bytes_d (b : Bool) (L : List RecC) (hb : Bor B w0 F 4 (.slice A L.length c) L.length (recs L)) (hx : ∀ x ∈ L, x.1 < 18446744073709551616) (hw : wsum L ≤ 100000000000) :
    Does Try.prog B w0 19 [.bool b, .slice A L.length c] F (fun r K => ∃ A' c', r = .slice A' (recsB b L).length c' ∧ K = .own 5 1 A' (recsB b L).length c' (bv (recsB b L)) :: F) := by
  have hlw := len_wsum L
  refine fn_walk Try.func19 21 rfl rfl rfl [(0, .bool b), (1, .slice A L.length c)] ⟨⟨rfl, rfl⟩, ⟨rfl, rfl⟩, trivial⟩ ?_
  refine vc_seq ?_
  refine vc_region ?_
  refine vl_det (det_assign rfl) rfl ?_
  refine vl_end [(0, _), (1, _)] ⟨rfl, rfl, trivial⟩ ?_
  refine then_next ?_
  refine vc_seq ?_
  refine vc_nil_row 5 1 none ?_
  refine vc_region ?_
  refine vl_det (det_assign rfl) rfl ?_
  refine vl_end [(0, _), (1, _), (5, _)] ⟨rfl, rfl, rfl, trivial⟩ ?_
  refine then_next ?_
  refine vc_seq ?_
  refine vc_seq ?_
  refine vc_region ?_
  refine vl_det (det_move rfl) rfl ?_
  refine vl_det (det_len_sl Try.underlying22 rfl) rfl ?_
  refine vl_det (det_move rfl) rfl ?_
  refine vl_end [(0, _), (5, _), (8, _), (9, _), (10, _)] ⟨rfl, rfl, rfl, rfl, rfl, trivial⟩ ?_
  refine then_next ?_
  refine vc_block ?_
  refine vc_loopJ (fun zf zL zm => ∃ (k : Nat) (A5 : Option Addr) (c5 : Nat), (k ≤ L.length) ∧ L.length - k = zm ∧ Sub zf [(0, .bool b), (5, .slice A5 (recsB b (L.take k)).length c5), (8, .slice A L.length c), (9, .int .i64 L.length), (10, .int .i64 k)] ∧ Wk zL (.own 5 1 A5 (recsB b (L.take k)).length c5 (bv (recsB b (L.take k))) :: F)) _ ⟨0, none, 0, Nat.zero_le _, rfl, ⟨(by first | rfl | exact int_to (by omega) | exact sl_to (by omega)), (by first | rfl | exact int_to (by omega) | exact sl_to (by omega)), (by first | rfl | exact int_to (by omega) | exact sl_to (by omega)), (by first | rfl | exact int_to (by omega) | exact sl_to (by omega)), (by first | rfl | exact int_to (by omega) | exact sl_to (by omega)), trivial⟩, wk_own rfl rfl (.refl _)⟩ ?_
  rintro _ _ _ ⟨k, A5, c5, hk, rfl, hs, hp⟩
  refine vc_weaken _ hs (vc_wk hp ?_)
  clear hs hp
  refine vc_seq ?_
  refine vc_region ?_
  refine vl_det (det_lss rfl rfl) rfl ?_
  refine vl_end [(0, _), (5, _), (8, _), (9, _), (10, _), (11, _)] ⟨rfl, rfl, rfl, rfl, rfl, rfl, trivial⟩ ?_
  refine then_next ?_
  refine vc_seq ?_
  refine vc_decideU rfl (fun h11 => ?_) (fun h11 => ?_)
  · skip
    have hxk := recAt_lt hx (k := k) (by omega)
    have hwk := w_le (L := L) (k := k) (by omega)
    have hrb := recB_len (b := b) hxk (by omega)
    have hws := recsB_len (b := b) (L := L.take k) (fun x h => hx x (List.mem_of_mem_take h)) (by have := wsum_le L k; omega)
    have hwl := wsum_le L k
    have hone := rec_one (recAt L k)
    refine vc_skip ?_
    refine then_next ?_
    refine vc_seq ?_
    refine vc_block ?_
    refine vc_seq ?_
    refine vc_region ?_
    refine vl_det (det_indexAddr (i := k) (size := 4) Try.underlying22 (by kernel_rfl) rfl rfl rfl (by omega) (by first | (exact Bor.own (by repeat (first | exact List.Mem.head _ | apply List.Mem.tail))) | (repeat (first | assumption | apply Bor.cons)))) rfl ?_
    refine vl_det (det_load_rowa 4 (by kernel_rfl) rfl (by first | (exact Bor.own (by repeat (first | exact List.Mem.head _ | apply List.Mem.tail))) | (repeat (first | assumption | apply Bor.cons))) (by omega) (RecC.cells (recAt L k)) (rec_cells (by omega)) rfl) rfl ?_
    refine vl_eff (eff_alloc_z (zv := (.agg #[.int .u64 0, .int .u8 0, .string ⟨#[]⟩, .string ⟨#[]⟩])) (by kernel_rfl) rfl) rfl ?_
    rintro _ _ ⟨g7, rfl, rfl⟩
    refine vl_eff0 (eff_store_whole 4 (by kernel_rfl) rfl rfl (by first | exact bv_one _ | exact strs_one _ | exact ints_one _ _ | (simp; done) | (simp [Value.oneCell']; done) | assumption) (by repeat (first | exact .hd | apply Sel.tl)) (by first | rfl | (simp; omega) | (simp [*]; done)) (by first | rfl | (simp; omega) | (simp [*]; done))) ?_
    rintro _ _ rfl
    refine vl_end [(0, _), (5, _), (7, _), (8, _), (9, _), (10, _)] ⟨rfl, rfl, rfl, rfl, rfl, rfl, trivial⟩ ?_
    refine then_next ?_
    refine vc_region ?_
    refine vl_det (det_move rfl) rfl ?_
    refine vl_det (det_move rfl) rfl ?_
    refine vl_det (det_load_whole 4 (by kernel_rfl) rfl (by repeat (first | exact .hd | apply Sel.tl)) (by first | rfl | (simp; omega) | (simp [*]; done))) rfl ?_
    refine vl_call co33 rfl (one_d b _ hxk (by omega)) rfl ?_
    rintro _ _ ⟨A17, c17, rfl, hLL⟩
    obtain rfl := hLL.symm
    refine vl_eff (eff_app slT32 rfl (by repeat (first | exact .hd | apply Sel.tl)) rfl (by first | (exact Bor.own (by repeat (first | exact List.Mem.head _ | apply List.Mem.tail))) | (repeat (first | assumption | apply Bor.cons))) (by first | exact bv_one _ | exact strs_one _ | exact ints_one _ _ | (simp; done) | (simp [Value.oneCell']; done) | assumption) (by omega) (by omega)) rfl ?_
    rintro _ _ ⟨A18, c18, rfl, rfl⟩
    refine vl_det (det_assign rfl) rfl ?_
    refine vl_end [(0, _), (5, _), (8, _), (9, _), (10, _)] ⟨rfl, rfl, rfl, rfl, rfl, trivial⟩ ?_
    refine in_normal ?_
    refine then_next ?_
    refine vc_region ?_
    refine vl_det (det_add rfl rfl (w_i64 (by omega) (by omega))) rfl ?_
    refine vl_det (det_move rfl) rfl ?_
    refine vl_end [(0, _), (5, _), (8, _), (9, _), (10, _)] ⟨rfl, rfl, rfl, rfl, rfl, trivial⟩ ?_
    have e : recsB b (L.take (k + 1)) = recsB b (L.take k) ++ recB b (recAt L k) := recsB_take (by omega)
    have el : (recsB b (L.take k)).length + (recB b (recAt L k)).length = (recsB b (L.take (k + 1))).length := by rw [e, List.length_append]
    rw [el]
    refine in_loop_ ⟨_, by omega, k + 1, A18, c18, by omega, rfl, ⟨(by first | rfl | exact int_to (by omega) | exact sl_to (by omega)), (by first | rfl | exact int_to (by omega) | exact sl_to (by omega)), (by first | rfl | exact int_to (by omega) | exact sl_to (by omega)), (by first | rfl | exact int_to (by omega) | exact sl_to (by omega)), (by first | rfl | exact int_to (by omega) | exact sl_to (by omega)), trivial⟩, .skip (.skip (wk_own rfl (by rw [e, bv_append]) (.refl _)))⟩
  · skip
    refine vc_exit ?_
    refine then_exit ?_
    refine loop_exit ?_
    refine in_eq ?_
    refine then_next ?_
    refine vc_seq ?_
    refine vc_region ?_
    refine vl_det (det_move rfl) rfl ?_
    refine vl_det (det_assign rfl) rfl ?_
    refine vl_end [(4, _)] ⟨rfl, trivial⟩ ?_
    refine then_next ?_
    refine vc_ret ?_
    have hkl : k = L.length := by omega
    subst hkl
    rw [List.take_length]
    refine ret1 rfl rfl ?_
    exact ⟨A5, c5, rfl, rfl⟩
theorem rbytes_d (b : Bool) (L : List RecC) (hb : Bor B w0 F 4 (.slice A L.length c) L.length (recs L)) (hx : ∀ x ∈ L, x.1 < 18446744073709551616) (hw : wsum L ≤ 100000000000) :
    Does Try.prog B w0 20 [.bool b, .slice A L.length c] F (fun r K => ∃ A' c', r = .slice A' (recsB b L).length c' ∧ K = .own 5 1 A' (recsB b L).length c' (bv (recsB b L)) :: F) := by
  have hlw := len_wsum L
  refine fn_walk Try.func20 22 rfl rfl rfl [(0, .bool b), (1, .slice A L.length c)] ⟨⟨rfl, rfl⟩, ⟨rfl, rfl⟩, trivial⟩ ?_
  refine vc_seq ?_
  refine vc_region ?_
  refine vl_det (det_assign rfl) rfl ?_
  refine vl_end [(0, _), (1, _)] ⟨rfl, rfl, trivial⟩ ?_
  refine then_next ?_
  refine vc_seq ?_
  refine vc_nil_row 5 1 none ?_
  refine vc_region ?_
  refine vl_det (det_assign rfl) rfl ?_
  refine vl_end [(0, _), (1, _), (5, _)] ⟨rfl, rfl, rfl, trivial⟩ ?_
  refine then_next ?_
  refine vc_seq ?_
  refine vc_seq ?_
  refine vc_region ?_
  refine vl_det (det_assign rfl) rfl ?_
  refine vl_end [(0, _), (1, _), (5, _), (6, _)] ⟨rfl, rfl, rfl, rfl, trivial⟩ ?_
  refine then_next ?_
  refine vc_block ?_
  refine vc_loopJ (fun zf zL zm => ∃ (k : Nat) (A5 : Option Addr) (c5 : Nat), (k ≤ L.length) ∧ L.length - k = zm ∧ Sub zf [(0, .bool b), (1, .slice A L.length c), (5, .slice A5 (recsB b (L.take k)).length c5), (6, .int .i64 k)] ∧ Wk zL (.own 5 1 A5 (recsB b (L.take k)).length c5 (bv (recsB b (L.take k))) :: F)) _ ⟨0, none, 0, Nat.zero_le _, rfl, ⟨(by first | rfl | exact int_to (by omega) | exact sl_to (by omega)), (by first | rfl | exact int_to (by omega) | exact sl_to (by omega)), (by first | rfl | exact int_to (by omega) | exact sl_to (by omega)), (by first | rfl | exact int_to (by omega) | exact sl_to (by omega)), trivial⟩, wk_own rfl rfl (.refl _)⟩ ?_
  rintro _ _ _ ⟨k, A5, c5, hk, rfl, hs, hp⟩
  refine vc_weaken _ hs (vc_wk hp ?_)
  clear hs hp
  refine vc_seq ?_
  refine vc_seq ?_
  refine vc_region ?_
  refine vl_det (det_move rfl) rfl ?_
  refine vl_det (det_move rfl) rfl ?_
  refine vl_det (det_len_sl Try.underlying22 rfl) rfl ?_
  refine vl_det (det_lss rfl rfl) rfl ?_
  refine vl_end [(0, _), (1, _), (5, _), (6, _), (10, _)] ⟨rfl, rfl, rfl, rfl, rfl, trivial⟩ ?_
  refine then_next ?_
  refine vc_decideU rfl (fun h10 => ?_) (fun h10 => ?_)
  · skip
    have hxk := recAt_lt hx (k := k) (by omega)
    have hwk := w_le (L := L) (k := k) (by omega)
    have hrb := recB_len (b := b) hxk (by omega)
    have hws := recsB_len (b := b) (L := L.take k) (fun x h => hx x (List.mem_of_mem_take h)) (by have := wsum_le L k; omega)
    have hwl := wsum_le L k
    have hone := rec_one (recAt L k)
    refine vc_skip ?_
    refine then_next ?_
    refine vc_seq ?_
    refine vc_block ?_
    refine vc_region ?_
    refine vl_det (det_move rfl) rfl ?_
    refine vl_det (det_move rfl) rfl ?_
    refine vl_det (det_move rfl) rfl ?_
    refine vl_det (det_move rfl) rfl ?_
    refine vl_det (det_indexAddr (i := k) (size := 4) Try.underlying22 (by kernel_rfl) rfl rfl rfl (by omega) (by first | (exact Bor.own (by repeat (first | exact List.Mem.head _ | apply List.Mem.tail))) | (repeat (first | assumption | apply Bor.cons)))) rfl ?_
    refine vl_det (det_load_rowa 4 (by kernel_rfl) rfl (by first | (exact Bor.own (by repeat (first | exact List.Mem.head _ | apply List.Mem.tail))) | (repeat (first | assumption | apply Bor.cons))) (by omega) (RecC.cells (recAt L k)) (rec_cells (by omega)) rfl) rfl ?_
    refine vl_call co34 rfl (rone_d b _ hxk (by omega)) rfl ?_
    rintro _ _ ⟨A19, c19, rfl, hLL⟩
    obtain rfl := hLL.symm
    refine vl_eff (eff_app slT32 rfl (by repeat (first | exact .hd | apply Sel.tl)) rfl (by first | (exact Bor.own (by repeat (first | exact List.Mem.head _ | apply List.Mem.tail))) | (repeat (first | assumption | apply Bor.cons))) (by first | exact bv_one _ | exact strs_one _ | exact ints_one _ _ | (simp; done) | (simp [Value.oneCell']; done) | assumption) (by omega) (by omega)) rfl ?_
    rintro _ _ ⟨A20, c20, rfl, rfl⟩
    refine vl_det (det_assign rfl) rfl ?_
    refine vl_end [(0, _), (1, _), (5, _), (6, _)] ⟨rfl, rfl, rfl, rfl, trivial⟩ ?_
    refine in_normal ?_
    refine then_next ?_
    refine vc_region ?_
    refine vl_det (det_move rfl) rfl ?_
    refine vl_det (det_add rfl rfl (w_i64 (by omega) (by omega))) rfl ?_
    refine vl_det (det_assign rfl) rfl ?_
    refine vl_end [(0, _), (1, _), (5, _), (6, _)] ⟨rfl, rfl, rfl, rfl, trivial⟩ ?_
    have e : recsB b (L.take (k + 1)) = recsB b (L.take k) ++ recB b (recAt L k) := recsB_take (by omega)
    have el : (recsB b (L.take k)).length + (recB b (recAt L k)).length = (recsB b (L.take (k + 1))).length := by rw [e, List.length_append]
    rw [el]
    refine in_loop_ ⟨_, by omega, k + 1, A20, c20, by omega, rfl, ⟨(by first | rfl | exact int_to (by omega) | exact sl_to (by omega)), (by first | rfl | exact int_to (by omega) | exact sl_to (by omega)), (by first | rfl | exact int_to (by omega) | exact sl_to (by omega)), (by first | rfl | exact int_to (by omega) | exact sl_to (by omega)), trivial⟩, .skip (wk_own rfl (by rw [e, bv_append]) (.refl _))⟩
  · skip
    refine vc_exit ?_
    refine then_exit ?_
    refine loop_exit ?_
    refine in_eq ?_
    refine then_next ?_
    refine vc_seq ?_
    refine vc_region ?_
    refine vl_det (det_move rfl) rfl ?_
    refine vl_det (det_assign rfl) rfl ?_
    refine vl_end [(4, _)] ⟨rfl, trivial⟩ ?_
    refine then_next ?_
    refine vc_ret ?_
    have hkl : k = L.length := by omega
    subst hkl
    rw [List.take_length]
    refine ret1 rfl rfl ?_
    exact ⟨A5, c5, rfl, rfl⟩
end Go.Proofs.Ytlbdhdocagahpaa
