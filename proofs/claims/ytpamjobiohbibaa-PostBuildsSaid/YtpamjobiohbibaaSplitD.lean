/-
  words.split handing words on, words.Terms, by frames. Conditions: texts are no longer than 2^38.
-/
import Derived.Test.YtpamjobiohbibaaWd1
import Derived.Test.YtpamjobiohbibaaTermP
namespace Go.Proofs.Ytpamjobiohbibaa
open Go.RowKit
set_option linter.unusedVariables false
set_option maxRecDepth 20000
variable {B : Nat} {w0 : World} {F : List Ch} {A A1 A2 : Option Addr} {n c c1 c2 g : Nat}
theorem SL.own_cut {w : World} {L : List Ch} {e : TypeId} {size k : Nat} {xs : List Value} (h : SL B w0 (.own e size A n c xs :: L) w) (hk : k ≤ n) : SL B w0 (.own e size A k c (xs.take (k * size)) :: L) w := by
  refine ⟨h.below, h.base, fun d hd => ?_, List.pairwise_cons.2 ⟨fun d hd => ?_, (List.pairwise_cons.1 h.apart).2⟩⟩
  · rcases List.mem_cons.1 hd with rfl | hd
    · obtain ⟨k1, k2, k3⟩ := h.head
      have hks : k * size ≤ n * size := Nat.mul_le_mul_right _ hk
      refine ⟨by rw [List.length_take, k1]; omega, by omega, k3.imp id fun ⟨g, cur, q1, q2, q3, q4, q5, q6⟩ => ⟨g, cur, q1, q2, q3, q4, q5, by rw [← q6, List.take_take, Nat.min_eq_left hks]⟩⟩
    · exact h.tail.all d hd
  · exact (List.pairwise_cons.1 h.apart).1 d hd
theorem ret_own_cut {P : Program} {fn : Func} {R : Value → List Ch → Prop} {ee : Exit} {fr : Fr} {L : List Ch} {e : TypeId} {size : Nat} {xs : List Value} (k : Nat) (hk : k ≤ n) (h : Ret P fn R ee fr (.own e size A k c (xs.take (k * size)) :: L)) : Ret P fn R ee fr (.own e size A n c xs :: L) := by
  cases ee <;> first
    | exact h
    | (intro B w0 a w ha hw; exact h B w0 a w ha (hw.own_cut hk))
/-- the collecting variable -/
abbrev ColP (ho : Nat) (A : Option Addr) (c : Nat) (ws : List Txt) (F : List Ch) : List Ch := .blk ho 26 [.slice A ws.length c] :: .own 9 1 A ws.length c (strs ws) :: F
/-- what a function does with each word that it is handed: it stands behind the others, turned -/
def Collects (B : Nat) (w0 : World) (ff : FuncId) (ho : Nat) (f : Txt → Txt) : Prop :=
  ∀ (F : List Ch) (t : Txt) (ws : List Txt) (A : Option Addr) (c : Nat), t.length ≤ 24 → ws.length ≤ 1000000000000 →
    Does Try.prog B w0 ff [.string ⟨t.toArray⟩, .pointer (some ⟨ho, 0, none⟩)] (ColP ho A c ws F) (fun r L => r = .tuple #[] ∧ ∃ A' c', L = ColP ho A' c' (ws ++ [f t]) F)
/-- the row of letters -/
abbrev RowP (hr : Nat) (A : Option Addr) (c : Nat) (row : List UInt8) (F : List Ch) : List Ch := .blk hr 41 [.slice A row.length c] :: .own 5 1 A row.length c (bv row) :: F
theorem tell_d {ff : FuncId} {ho hr hw : Nat} {f : Txt → Txt} (hcal : Callable Try.prog ff) (hword : Collects B w0 ff ho f) {row : List UInt8} {ws : List Txt} (hws : ws.length ≤ 1000000000000) (hrow : row.length ≤ 1000000000000) :
    Does Try.prog B w0 57 [.pointer (some ⟨hr, 0, none⟩), .pointer (some ⟨hw, 0, none⟩)] (RowP hr A1 c1 row (.blk hw 65 [.func (.func ff) #[] [.pointer (some ⟨ho, 0, none⟩)].toArray] :: ColP ho A2 c2 ws F))
      (fun r L => r = .tuple #[] ∧ ∃ A2' c2', L = RowP hr A1 c1 [] (.blk hw 65 [.func (.func ff) #[] [.pointer (some ⟨ho, 0, none⟩)].toArray] :: ColP ho A2' c2' (ws ++ (emit row).map f) F)) := by
  refine fn_walk Try.func57 15 rfl rfl rfl [(0, .pointer (some ⟨hr, 0, none⟩)), (1, .pointer (some ⟨hw, 0, none⟩))] ⟨⟨rfl, rfl⟩, ⟨rfl, rfl⟩, trivial⟩ ?_
  refine vc_seq ?_
  refine vc_seq ?_
  refine vc_region ?_
  refine vl_det (det_load_blk (by kernel_rfl) rfl (by repeat (first | exact .hd | apply Sel.tl)) rfl) rfl ?_
  refine vl_det (det_len_sl Try.underlying41 rfl) rfl ?_
  refine vl_det (det_gtr rfl rfl) rfl ?_
  refine vl_end [(0, _), (1, _), (4, _)] ⟨rfl, rfl, rfl, trivial⟩ ?_
  refine then_next ?_
  refine vc_decideU rfl (fun h4 => ?_) (fun h4 => ?_)
  · skip
    refine vc_bor (A := A1) (nn := row.length) (c := c1) (size := 1) (xs := bv row) (by first | (exact Bor.own (by repeat (first | exact List.Mem.head _ | apply List.Mem.tail))) | (repeat (first | assumption | apply Bor.cons))) fun hcap _ => ?_
    obtain ⟨M, hM⟩ : ∃ M, M = min row.length 24 := ⟨_, rfl⟩
    have htl : (row.take 24).length = M := by rw [List.length_take, hM, Nat.min_comm]
    have he : emit row = [row.take 24] := if_neg (fun e => by rw [e] at h4; simp at h4)
    have hMm : min (row.length : Int) 24 = (M : Int) := by omega
    have htk : (bv row).take (M * 1) = bv (row.take 24) := by
      rw [Nat.mul_one, bv_take]
      congr 1
      rcases Nat.lt_or_ge row.length 24 with h | h
      · rw [List.take_of_length_le (by omega), List.take_of_length_le (by omega)]
      · rw [show M = 24 by omega]
    refine vh_region (S := .blk hr 41 [.slice A1 row.length c1] :: .own 5 1 A1 row.length c1 (bv row) :: .blk hw 65 [.func (.func ff) #[] [.pointer (some ⟨ho, 0, none⟩)].toArray] :: []) (by kernel_rfl) (by repeat (first | exact List.Sublist.refl _ | exact List.nil_sublist _ | apply List.Sublist.cons_cons | apply List.Sublist.cons)) ?_
    refine vh_take 0 rfl (by kernel_rfl) (by kernel_rfl) (by kernel_rfl) (det_load_blk (by kernel_rfl) rfl (by repeat (first | exact .hd | apply Sel.tl)) rfl) rfl ?_
    refine vh_take 1 rfl (by kernel_rfl) (by kernel_rfl) (by kernel_rfl) (det_load_blk (by kernel_rfl) rfl (by repeat (first | exact .hd | apply Sel.tl)) rfl) rfl ?_
    refine vh_take 2 rfl (by kernel_rfl) (by kernel_rfl) (by kernel_rfl) (det_load_blk (by kernel_rfl) rfl (by repeat (first | exact .hd | apply Sel.tl)) rfl) rfl ?_
    refine vh_take 3 rfl (by kernel_rfl) (by kernel_rfl) (by kernel_rfl) (det_len_sl Try.underlying41 rfl) rfl ?_
    refine vh_take 4 rfl (by kernel_rfl) (by kernel_rfl) (by kernel_rfl) (det_min rfl rfl) rfl ?_
    rw [hMm]
    refine vh_take 5 rfl (by kernel_rfl) (by kernel_rfl) (by kernel_rfl) (det_slice_hi (i := M) (size := 1) Try.underlying41 (by kernel_rfl) rfl rfl rfl (by omega)) rfl ?_
    refine vh_take 6 rfl (by kernel_rfl) (by kernel_rfl) (by kernel_rfl) (det_bstr (b := row.take 24) Try.underlying41 Try.underlying5 Try.underlying9 rfl (htk ▸ ((by first | (exact Bor.own (by repeat (first | exact List.Mem.head _ | apply List.Mem.tail))) | (repeat (first | assumption | apply Bor.cons))) : Bor _ _ _ 1 (.slice A1 row.length c1) row.length (bv row)).head_ (k := M) (by omega))) rfl ?_
    refine vh_one 7 (by kernel_rfl) ?_
    refine st_callv rfl .no hcal rfl rfl ((hword _ (row.take 24) ws _ _ (by omega) (by omega)).perm ((pu3 (pu3 (pu0 (pu0 (pu0 (.refl _)))))))) rfl (by rintro _ _ ⟨rfl, A12, c12, rfl⟩; exact (by repeat (first | exact List.Sublist.refl _ | exact List.nil_sublist _ | apply List.Sublist.cons_cons | apply List.Sublist.cons))) ?_
    rintro _ _ ⟨rfl, A12, c12, hLL⟩
    obtain rfl := hLL.symm
    refine vh_done [(0, _)] ⟨rfl, trivial⟩ (by kernel_rfl) ?_
    refine then_next ?_
    refine vc_region ?_
    refine vl_det (det_load_blk (by kernel_rfl) rfl (by repeat (first | exact .hd | apply Sel.tl)) rfl) rfl ?_
    refine vl_det (det_slice_hi (i := 0) (size := 1) Try.underlying41 (by kernel_rfl) rfl rfl rfl (by omega)) rfl ?_
    refine vl_eff0 (eff_store (by kernel_rfl) rfl rfl rfl (by repeat (first | exact .hd | apply Sel.tl)) (by simp)) ?_
    rintro _ _ rfl
    refine vl_end [] trivial ?_
    refine ret_n ?_
    refine ret_wk (L' := .own 5 1 A1 row.length c1 (bv row) :: .blk hr 41 [.slice A1 0 c1] :: .blk hw 65 [.func (.func ff) #[] [.pointer (some ⟨ho, 0, none⟩)].toArray] :: ColP ho A12 c12 (ws ++ [f (row.take 24)]) F) ((wu3 (wu2 (wu2 (wu0 (wu0 (.refl _))))))) ?_
    refine ret_own_cut 0 (Nat.zero_le _) ?_
    refine ret_wk (L' := RowP hr A1 c1 [] (.blk hw 65 [.func (.func ff) #[] [.pointer (some ⟨ho, 0, none⟩)].toArray] :: ColP ho A12 c12 (ws ++ [f (row.take 24)]) F)) (.swap (.cons (wk_own rfl (by rw [Nat.zero_mul]; rfl) (.refl _)))) ?_
    refine ret0 rfl ?_
    exact ⟨rfl, A12, c12, by rw [he]; rfl⟩
  · skip
    obtain rfl : row = [] := List.eq_nil_of_length_eq_zero (by omega)
    refine vc_skip ?_
    refine then_next ?_
    refine vc_region ?_
    refine vl_det (det_load_blk (by kernel_rfl) rfl (by repeat (first | exact .hd | apply Sel.tl)) rfl) rfl ?_
    refine vl_det (det_slice_hi (i := 0) (size := 1) Try.underlying41 (by kernel_rfl) rfl rfl rfl (by omega)) rfl ?_
    refine vl_eff0 (eff_store (by kernel_rfl) rfl rfl rfl (by repeat (first | exact .hd | apply Sel.tl)) (by simp)) ?_
    rintro _ _ rfl
    refine vl_end [] trivial ?_
    refine ret_n ?_
    refine ret0 rfl ?_
    exact ⟨rfl, A2, c2, by simp [emit]⟩
theorem split_d {ff : FuncId} {ho : Nat} {f : Txt → Txt} (hcal : Callable Try.prog ff) (hword : Collects B w0 ff ho f) (l : List UInt8) {ws : List Txt} (hws : ws.length ≤ 274877906944) (hl : l.length ≤ 274877906944) :
    Does Try.prog B w0 33 [.string ⟨l.toArray⟩, .func (.func ff) #[] [.pointer (some ⟨ho, 0, none⟩)].toArray] (ColP ho A2 c2 ws F)
      (fun r L => r = .tuple #[] ∧ ∃ A2' c2', L = ColP ho A2' c2' (ws ++ (wordsL l).map f) F) := by
  refine fn_walk Try.func33 32 rfl rfl rfl [(0, .string ⟨l.toArray⟩), (1, .func (.func ff) #[] [.pointer (some ⟨ho, 0, none⟩)].toArray)] ⟨⟨rfl, rfl⟩, ⟨rfl, rfl⟩, trivial⟩ ?_
  refine vc_seq ?_
  refine vc_region ?_
  refine vl_eff (eff_box rfl rfl) rfl ?_
  rintro _ _ ⟨g3, rfl, rfl⟩
  refine vl_end [(0, _), (3, _)] ⟨rfl, rfl, trivial⟩ ?_
  refine then_next ?_
  refine vc_seq ?_
  refine vc_region ?_
  refine vl_eff (eff_alloc_z (zv := (.slice none 0 0)) (by kernel_rfl) rfl) rfl ?_
  rintro _ _ ⟨g4, rfl, rfl⟩
  refine vl_end [(0, _), (3, _), (4, _)] ⟨rfl, rfl, rfl, trivial⟩ ?_
  refine then_next ?_
  refine vc_seq ?_
  refine vc_region ?_
  refine vl_det (det_makeFunc rfl rfl) rfl ?_
  refine vl_det (det_assign rfl) rfl ?_
  refine vl_end [(0, _), (4, _), (5, _)] ⟨rfl, rfl, rfl, trivial⟩ ?_
  refine then_next ?_
  refine vc_seq ?_
  refine vc_seq ?_
  refine vc_nil_row 5 1 none ?_
  refine vc_region ?_
  refine vl_det (det_move rfl) rfl ?_
  refine vl_det (det_len_s Try.underlying9 rfl) rfl ?_
  refine vl_det (det_move rfl) rfl ?_
  refine vl_end [(0, _), (4, _), (5, _), (11, _), (12, _)] ⟨rfl, rfl, rfl, rfl, rfl, trivial⟩ ?_
  refine then_next ?_
  refine vc_block ?_
  refine vc_loopJ (fun zf zL zm => ∃ (k : Nat) (W : List Txt) (R : List UInt8) (A : Option Addr) (c : Nat) (A3 : Option Addr) (c3 : Nat), (k ≤ l.length ∧ wst (l.take k) = (W, R)) ∧ l.length - k = zm ∧ Sub zf [(0, .string ⟨l.toArray⟩), (4, .pointer (some ⟨g4, 0, none⟩)), (5, .func (.func 57) #[] [.pointer (some ⟨g4, 0, none⟩), .pointer (some ⟨g3, 0, none⟩)].toArray), (11, .int .i64 l.length), (12, .int .i64 k)] ∧ Wk zL (RowP g4 A c R (.blk g3 65 [.func (.func ff) #[] [.pointer (some ⟨ho, 0, none⟩)].toArray] :: ColP ho A3 c3 (ws ++ W.map f) F))) _ ⟨0, [], [], none, 0, A2, c2, ⟨Nat.zero_le _, rfl⟩, rfl, ⟨(by first | rfl | exact int_to (by omega) | exact sl_to (by omega)), (by first | rfl | exact int_to (by omega) | exact sl_to (by omega)), (by first | rfl | exact int_to (by omega) | exact sl_to (by omega)), (by first | rfl | exact int_to (by omega) | exact sl_to (by omega)), (by first | rfl | exact int_to (by omega) | exact sl_to (by omega)), trivial⟩, .swap (.cons (.cons (.cons (wk_blk (by simp) (wk_own (by simp) (by simp) (.refl _))))))⟩ ?_
  rintro _ _ _ ⟨k, W, R, A, c, A3, c3, ⟨hk, hW⟩, rfl, hs, hp⟩
  refine vc_weaken _ hs (vc_wk hp ?_)
  clear hs hp
  refine vc_seq ?_
  refine vc_region ?_
  refine vl_det (det_lss rfl rfl) rfl ?_
  refine vl_end [(0, _), (4, _), (5, _), (11, _), (12, _), (13, _)] ⟨rfl, rfl, rfl, rfl, rfl, rfl, trivial⟩ ?_
  refine then_next ?_
  refine vc_seq ?_
  refine vc_decideU rfl (fun h13 => ?_) (fun h13 => ?_)
  · skip
    have hwl := wst_len (l.take k)
    rw [hW, List.length_take] at hwl
    simp only at hwl
    have hel := emit_len R
    have hsn : wst (l.take (k + 1)) = wstep (W, R) (l.getD k 0) := by
      rw [List.take_add_one, List.getElem?_eq_getElem (show k < l.length by omega), ← hW, ← wst_snoc]
      simp [List.getD, List.getElem?_eq_getElem (show k < l.length by omega)]
    refine vc_skip ?_
    refine then_next ?_
    refine vc_seq ?_
    refine vc_block ?_
    refine vc_seq ?_
    refine vc_region ?_
    refine vl_det (det_move rfl) rfl ?_
    refine vl_det (det_assign rfl) rfl ?_
    refine vl_end [(0, _), (4, _), (5, _), (6, _), (11, _), (12, _)] ⟨rfl, rfl, rfl, rfl, rfl, rfl, trivial⟩ ?_
    refine then_next ?_
    refine vc_seq ?_
    refine vc_seq ?_
    refine vc_region ?_
    refine vl_det (det_move rfl) rfl ?_
    refine vl_det (det_move rfl) rfl ?_
    refine vl_det (det_at_str Try.underlying9 rfl rfl rfl (by omega)) rfl ?_
    refine vl_call co58 rfl (letter_d (l.getD k 0)) rfl ?_
    rintro _ _ ⟨rfl, hLL⟩
    obtain rfl := hLL.symm
    refine vl_det (det_move rfl) rfl ?_
    refine vl_det (det_extract rfl rfl) rfl ?_
    refine vl_det (det_extract rfl rfl) rfl ?_
    refine vl_det (det_assign rfl) rfl ?_
    refine vl_det (det_assign rfl) rfl ?_
    refine vl_end [(0, _), (4, _), (5, _), (7, _), (8, _), (11, _), (12, _)] ⟨rfl, rfl, rfl, rfl, rfl, rfl, rfl, trivial⟩ ?_
    refine then_next ?_
    refine vc_seq ?_
    refine vc_region ?_
    refine vl_det (det_move rfl) rfl ?_
    refine vl_end [(0, _), (4, _), (5, _), (7, _), (11, _), (12, _), (22, _)] ⟨rfl, rfl, rfl, rfl, rfl, rfl, rfl, trivial⟩ ?_
    refine then_next ?_
    refine vc_decideU rfl (fun h22 => ?_) (fun h22 => ?_)
    · skip
      refine vc_seq ?_
      refine vc_region ?_
      refine vl_det (det_load_blk (by kernel_rfl) rfl (by repeat (first | exact .hd | apply Sel.tl)) rfl) rfl ?_
      refine vl_det (det_move rfl) rfl ?_
      refine vl_push slT41 rfl rfl rfl rfl rfl (fun _ => rfl) (by repeat (first | exact .hd | apply Sel.tl)) (by omega) (by omega) ?_
      intro _ A26 c26
      refine vl_eff0 (eff_store (by kernel_rfl) rfl rfl rfl (by repeat (first | exact .hd | apply Sel.tl)) (by simp)) ?_
      rintro _ _ rfl
      refine vl_end [(0, _), (4, _), (5, _), (11, _), (12, _)] ⟨rfl, rfl, rfl, rfl, rfl, trivial⟩ ?_
      refine then_next ?_
      refine vc_exit ?_
      refine then_exit ?_
      refine in_eq ?_
      refine then_next ?_
      refine vc_region ?_
      refine vl_det (det_add rfl rfl (w_i64 (by omega) (by omega))) rfl ?_
      refine vl_det (det_move rfl) rfl ?_
      refine vl_end [(0, _), (4, _), (5, _), (11, _), (12, _)] ⟨rfl, rfl, rfl, rfl, rfl, trivial⟩ ?_
      have hel2 : R.length + 1 = (R ++ [small (l.getD k 0)]).length := by simp
      refine in_loop_ ⟨_, by omega, k + 1, W, R ++ [small (l.getD k 0)], A26, c26, A3, c3, ⟨by omega, by rw [hsn, wstep_yes h22]⟩, rfl, ⟨(by first | rfl | exact int_to (by omega) | exact sl_to (by omega)), (by first | rfl | exact int_to (by omega) | exact sl_to (by omega)), (by first | rfl | exact int_to (by omega) | exact sl_to (by omega)), (by first | rfl | exact int_to (by omega) | exact sl_to (by omega)), (by first | rfl | exact int_to (by omega) | exact sl_to (by omega)), trivial⟩, wk_blk (by rw [hel2]; rfl) (wk_own hel2 (by simp [bv]) (.refl _))⟩
    · skip
      refine vc_skip ?_
      refine then_next ?_
      refine vc_region ?_
      refine vl_det (det_move rfl) rfl ?_
      refine vl_callv co57 rfl rfl (tell_d hcal hword (by simp; omega) (by omega)) rfl ?_
      rintro _ _ ⟨rfl, A28, c28, hLL⟩
      obtain rfl := hLL.symm
      refine vl_end [(0, _), (4, _), (5, _), (11, _), (12, _)] ⟨rfl, rfl, rfl, rfl, rfl, trivial⟩ ?_
      refine in_normal ?_
      refine then_next ?_
      refine vc_region ?_
      refine vl_det (det_add rfl rfl (w_i64 (by omega) (by omega))) rfl ?_
      refine vl_det (det_move rfl) rfl ?_
      refine vl_end [(0, _), (4, _), (5, _), (11, _), (12, _)] ⟨rfl, rfl, rfl, rfl, rfl, trivial⟩ ?_
      refine in_loop_ ⟨_, by omega, k + 1, W ++ emit R, [], A, c, A28, c28, ⟨by omega, by rw [hsn, wstep_no (Classical.not_not.1 h22)]⟩, rfl, ⟨(by first | rfl | exact int_to (by omega) | exact sl_to (by omega)), (by first | rfl | exact int_to (by omega) | exact sl_to (by omega)), (by first | rfl | exact int_to (by omega) | exact sl_to (by omega)), (by first | rfl | exact int_to (by omega) | exact sl_to (by omega)), (by first | rfl | exact int_to (by omega) | exact sl_to (by omega)), trivial⟩, .cons (.cons (.cons (wk_blk (by simp) (wk_own (by simp) (by simp) (.refl _)))))⟩
  · skip
    obtain rfl : k = l.length := by omega
    rw [List.take_length] at hW
    have hwl := wst_len l
    rw [hW] at hwl
    simp only at hwl
    have hwd : wordsL l = W ++ emit R := by unfold wordsL; rw [hW]
    refine vc_exit ?_
    refine then_exit ?_
    refine loop_exit ?_
    refine in_eq ?_
    refine then_next ?_
    refine vc_region ?_
    refine vl_det (det_move rfl) rfl ?_
    refine vl_callv co57 rfl rfl (tell_d hcal hword (by simp; omega) (by omega)) rfl ?_
    rintro _ _ ⟨rfl, A31, c31, hLL⟩
    obtain rfl := hLL.symm
    refine vl_end [] trivial ?_
    refine ret_n ?_
    refine ret_wk (L' := ColP ho A31 c31 (ws ++ W.map f ++ (emit R).map f) F) (.skip (.skip (.skip (.refl _)))) ?_
    refine ret0 rfl ?_
    exact ⟨rfl, A31, c31, by rw [hwd]; simp⟩
theorem collects1 {ho : Nat} : Collects B w0 34 ho (fun t => t) := by
  intro F t ws A c ht hws
  refine fn_walk Try.func34 7 rfl rfl rfl [(0, .string ⟨t.toArray⟩), (1, .pointer (some ⟨ho, 0, none⟩))] ⟨⟨rfl, rfl⟩, ⟨rfl, rfl⟩, trivial⟩ ?_
  refine vc_region ?_
  refine vl_det (det_load_blk (by kernel_rfl) rfl (by repeat (first | exact .hd | apply Sel.tl)) rfl) rfl ?_
  refine vl_det (det_move rfl) rfl ?_
  refine vl_push slT26 rfl rfl rfl rfl rfl (fun _ => rfl) (by repeat (first | exact .hd | apply Sel.tl)) (by omega) (by omega) ?_
  intro _ A6 c6
  refine vl_eff0 (eff_store (by kernel_rfl) rfl rfl rfl (by repeat (first | exact .hd | apply Sel.tl)) (by simp)) ?_
  rintro _ _ rfl
  refine vl_end [] trivial ?_
  refine ret_n ?_
  have hel : ws.length + 1 = (ws ++ [t]).length := by simp
  refine ret_wk (L' := ColP ho A6 c6 (ws ++ [t]) F) (wk_blk (by rw [hel]; rfl) (wk_own hel (by simp [strs]) (.refl _))) ?_
  refine ret0 rfl ?_
  exact ⟨rfl, A6, c6, rfl⟩
theorem collects2 {ho : Nat} : Collects B w0 35 ho (fun t => 64 :: t) := by
  intro F t ws A c ht hws
  refine fn_walk Try.func35 8 rfl rfl rfl [(0, .string ⟨t.toArray⟩), (1, .pointer (some ⟨ho, 0, none⟩))] ⟨⟨rfl, rfl⟩, ⟨rfl, rfl⟩, trivial⟩ ?_
  refine vc_region ?_
  refine vl_det (det_load_blk (by kernel_rfl) rfl (by repeat (first | exact .hd | apply Sel.tl)) rfl) rfl ?_
  refine vl_det (det_move rfl) rfl ?_
  refine vl_det (det_s_add (s := [64]) (r := t) rfl rfl (by simp only [List.length_cons, List.length_nil]; omega)) rfl ?_
  refine vl_push slT26 rfl rfl rfl rfl rfl (fun _ => rfl) (by repeat (first | exact .hd | apply Sel.tl)) (by omega) (by omega) ?_
  intro _ A7 c7
  refine vl_eff0 (eff_store (by kernel_rfl) rfl rfl rfl (by repeat (first | exact .hd | apply Sel.tl)) (by simp)) ?_
  rintro _ _ rfl
  refine vl_end [] trivial ?_
  refine ret_n ?_
  have hel : ws.length + 1 = (ws ++ [64 :: t]).length := by simp
  refine ret_wk (L' := ColP ho A7 c7 (ws ++ [64 :: t]) F) (wk_blk (by rw [hel]; rfl) (wk_own hel (by simp [strs]) (.refl _))) ?_
  refine ret0 rfl ?_
  exact ⟨rfl, A7, c7, rfl⟩
theorem terms_d {a b : Value} (txt src : List UInt8) (h1 : txt.length ≤ 100000000000) (h2 : src.length ≤ 100000000000) :
    Does Try.prog B w0 14 [.agg #[a, b, .string ⟨src.toArray⟩, .string ⟨txt.toArray⟩]] F (fun r L => ∃ A c, r = .slice A (termsL txt src).length c ∧ L = .own 9 1 A (termsL txt src).length c (strs (termsL txt src)) :: F) := by
  have hrl := rawT_len txt src
  have hw1 := wordsL_len txt
  refine fn_walk Try.func14 16 rfl rfl rfl [(0, .agg #[a, b, .string ⟨src.toArray⟩, .string ⟨txt.toArray⟩])] ⟨⟨rfl, rfl⟩, trivial⟩ ?_
  refine vc_seq ?_
  refine vc_region ?_
  refine vl_eff (eff_box rfl rfl) rfl ?_
  rintro _ _ ⟨g1, rfl, rfl⟩
  refine vl_det (det_assign rfl) rfl ?_
  refine vl_end [(1, _)] ⟨rfl, trivial⟩ ?_
  refine then_next ?_
  refine vc_seq ?_
  refine vc_region ?_
  refine vl_eff (eff_alloc_z (zv := (.slice none 0 0)) (by kernel_rfl) rfl) rfl ?_
  rintro _ _ ⟨g3, rfl, rfl⟩
  refine vl_end [(1, _), (3, _)] ⟨rfl, rfl, trivial⟩ ?_
  refine then_next ?_
  refine vc_seq ?_
  refine vc_nil_row 9 1 none ?_
  refine vc_region ?_
  refine vl_det (det_fieldAddr_ Try.underlying35 rfl (by kernel_rfl) rfl rfl) rfl ?_
  refine vl_det (det_load_blk (by kernel_rfl) rfl (by repeat (first | exact .hd | apply Sel.tl)) rfl) rfl ?_
  refine vl_det (det_makeFunc rfl rfl) rfl ?_
  refine vl_call co33 rfl ((split_d co34 collects1 txt (ws := []) (by simp) (by omega)).perm ((pu1 (pu0 (pu0 (.refl _)))))) rfl ?_
  rintro _ _ ⟨rfl, A7, c7, hLL⟩
  obtain rfl := hLL.symm
  refine vl_end [(1, _), (3, _)] ⟨rfl, rfl, trivial⟩ ?_
  refine then_next ?_
  refine vc_seq ?_
  refine vc_region ?_
  refine vl_det (det_fieldAddr_ Try.underlying35 rfl (by kernel_rfl) rfl rfl) rfl ?_
  refine vl_det (det_load_blk (by kernel_rfl) rfl (by repeat (first | exact .hd | apply Sel.tl)) rfl) rfl ?_
  refine vl_det (det_makeFunc rfl rfl) rfl ?_
  refine vl_call co33 rfl (split_d co35 collects2 src (by simp; omega) (by omega)) rfl ?_
  rintro _ _ ⟨rfl, A11, c11, hLL⟩
  obtain rfl := hLL.symm
  have e : ([] ++ List.map (fun t => t) (wordsL txt)) ++ List.map (fun t => 64 :: t) (wordsL src) = rawT txt src := by simp [rawT]
  rw [e]
  refine vl_end [(3, _)] ⟨rfl, trivial⟩ ?_
  refine then_next ?_
  refine vc_seq ?_
  refine vc_region ?_
  refine vl_det (det_load_blk (by kernel_rfl) rfl (by repeat (first | exact .hd | apply Sel.tl)) rfl) rfl ?_
  refine vl_call co36 rfl ((sort_d (l := rawT txt src) (by omega)).perm ((pu1 (pu0 (pu0 (.refl _)))))) rfl ?_
  rintro _ _ ⟨rfl, hLL⟩
  obtain rfl := hLL.symm
  rw [show (rawT txt src).length = ((rawT txt src).mergeSort leS).length from (List.length_mergeSort _).symm]
  refine vl_end [(3, _)] ⟨rfl, trivial⟩ ?_
  refine then_next ?_
  refine vc_seq ?_
  refine vc_region ?_
  refine vl_det (det_load_blk (by kernel_rfl) rfl (by repeat (first | exact .hd | apply Sel.tl)) rfl) rfl ?_
  refine vl_call co37 rfl (compact_d (l := (rawT txt src).mergeSort leS) (by rw [List.length_mergeSort]; omega)) rfl ?_
  rintro _ _ ⟨rfl, hLL⟩
  obtain rfl := hLL.symm
  refine vl_det (det_assign rfl) rfl ?_
  refine vl_end [(2, _)] ⟨rfl, trivial⟩ ?_
  refine then_next ?_
  refine vc_ret ?_
  refine ret_wk (L' := .own 9 1 A11 (termsL txt src).length c11 (strs (termsL txt src)) :: F) (.cons (.skip (.skip (.refl _)))) ?_
  refine ret1 rfl rfl ?_
  exact ⟨A11, c11, rfl, rfl⟩
end Go.Proofs.Ytpamjobiohbibaa
