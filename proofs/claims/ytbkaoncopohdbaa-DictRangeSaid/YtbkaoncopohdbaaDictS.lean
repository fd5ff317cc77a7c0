/-
  A dictionary's next text, by frames. Conditions: the cursor's bytes are shorter than 2^40.
-/
import Derived.Test.YtbkaoncopohdbaaDictV
import Derived.Test.YtbkaoncopohdbaaCurE
namespace Go.Proofs.Ytbkaoncopohdbaa
open Go.RowKit
set_option linter.unusedVariables false
set_option maxRecDepth 20000
variable {B : Nat} {w0 : World} {F : List Ch} {A A1 A2 : Option Addr} {n c c1 c2 g : Nat} {s : Cs}
theorem cend_d (ho : CsOk s) (hb : Bor B w0 F 1 (.slice A s.b.length c) s.b.length (bv s.b)) :
    Does Try.prog B w0 56 [.pointer (some ⟨g, 0, none⟩)] (Cv g A c s :: F) (fun r L => r = .int .i64 s.end'.e ∧ L = Cv g A c s.end' :: F) := by
  refine fn_walk Try.func56 10 rfl rfl rfl [(0, .pointer (some ⟨g, 0, none⟩))] ⟨⟨rfl, rfl⟩, trivial⟩ ?_
  refine vc_seq ?_
  refine vc_region ?_
  refine vl_det (det_assign rfl) rfl ?_
  refine vl_end [(0, _)] ⟨rfl, trivial⟩ ?_
  refine then_next ?_
  refine vc_seq ?_
  refine vc_seq ?_
  refine vc_region ?_
  refine vl_det (det_move rfl) rfl ?_
  refine vl_call co62 rfl (cleft_d ho hb) rfl ?_
  rintro _ _ ⟨rfl, hLL⟩
  obtain rfl := hLL.symm
  refine vl_det (det_gtr rfl rfl) rfl ?_
  refine vl_end [(0, _), (5, _)] ⟨rfl, rfl, trivial⟩ ?_
  refine then_next ?_
  refine vc_decideU rfl (fun h5 => ?_) (fun h5 => ?_)
  · skip
    have he : s.end' = s.failed 2 := if_pos (by omega)
    refine vc_region ?_
    refine vl_det (det_move rfl) rfl ?_
    refine vl_call co61 rfl (cfail_d 2) rfl ?_
    rintro _ _ ⟨rfl, hLL⟩
    obtain rfl := hLL.symm
    refine vl_end [(0, _)] ⟨rfl, trivial⟩ ?_
    refine then_next ?_
    refine vc_seq ?_
    refine vc_region ?_
    refine vl_det (det_move rfl) rfl ?_
    refine vl_call co38 rfl (cerr_d) rfl ?_
    rintro _ _ ⟨rfl, hLL⟩
    obtain rfl := hLL.symm
    refine vl_det (det_assign rfl) rfl ?_
    refine vl_end [(2, _)] ⟨rfl, trivial⟩ ?_
    refine then_next ?_
    refine vc_ret ?_
    refine ret1 rfl rfl ?_
    rw [he]; exact ⟨rfl, rfl⟩
  · skip
    have he : s.end' = s := if_neg (by omega)
    refine vc_skip ?_
    refine then_next ?_
    refine vc_seq ?_
    refine vc_region ?_
    refine vl_det (det_move rfl) rfl ?_
    refine vl_call co38 rfl (cerr_d) rfl ?_
    rintro _ _ ⟨rfl, hLL⟩
    obtain rfl := hLL.symm
    refine vl_det (det_assign rfl) rfl ?_
    refine vl_end [(2, _)] ⟨rfl, trivial⟩ ?_
    refine then_next ?_
    refine vc_ret ?_
    refine ret1 rfl rfl ?_
    rw [he]; exact ⟨rfl, rfl⟩
theorem cat_d : Does Try.prog B w0 41 [.pointer (some ⟨g, 0, none⟩)] (Cv g A c s :: F) (fun r L => r = .int .i64 s.at_ ∧ L = Cv g A c s :: F) := by
  refine fn_walk Try.func41 10 rfl rfl rfl [(0, .pointer (some ⟨g, 0, none⟩))] ⟨⟨rfl, rfl⟩, trivial⟩ ?_
  refine vc_seq ?_
  refine vc_region ?_
  refine vl_det (det_assign rfl) rfl ?_
  refine vl_end [(0, _)] ⟨rfl, trivial⟩ ?_
  refine then_next ?_
  refine vc_seq ?_
  refine vc_seq ?_
  refine vc_region ?_
  refine vl_det (det_move rfl) rfl ?_
  refine vl_det (det_ptr_nil Try.underlying68 rfl rfl) rfl ?_
  refine vl_end [(0, _), (4, _)] ⟨rfl, rfl, trivial⟩ ?_
  refine then_next ?_
  refine vc_cond_f rfl ?_
  refine vc_skip ?_
  refine then_next ?_
  refine vc_seq ?_
  refine vc_region ?_
  refine vl_det (det_move rfl) rfl ?_
  refine vl_det (det_nilCheck rfl) rfl ?_
  refine vl_det (det_fieldAddr_ Try.underlying83 rfl (by kernel_rfl) rfl rfl) rfl ?_
  refine vl_det (det_fieldAddr_ Try.underlying81 rfl (by kernel_rfl) rfl rfl) rfl ?_
  refine vl_det (det_load_blk (by kernel_rfl) rfl (by repeat (first | exact .hd | apply Sel.tl)) rfl) rfl ?_
  refine vl_det (det_assign rfl) rfl ?_
  refine vl_end [(2, _)] ⟨rfl, trivial⟩ ?_
  refine then_next ?_
  refine vc_ret ?_
  refine ret1 rfl rfl ?_
  exact ⟨rfl, rfl⟩
/-! a dictionary's next text: behind was, first of its bucket or not -/
def nxN (s : Cs) (was : Txt) (first : Bool) : Nat := if first then 0 else s.int was.length
def nxA (s : Cs) (was : Txt) (first : Bool) : Cs := if first then s else s.int' was.length
def nxS (s : Cs) (was : Txt) (first : Bool) : Cs := (nxA s was first).text' 25
def nxX (s : Cs) (was : Txt) (first : Bool) : Txt := was.take (nxN s was first) ++ (nxA s was first).text 25
def nxBad (s : Cs) (was : Txt) (first : Bool) : Prop := (nxA s was first).text 25 = [] ∨ ¬ mayT was (nxX s was first) ∨ (first = false ∧ lcp was (nxX s was first) ≠ nxN s was first)
instance (s : Cs) (was : Txt) (first : Bool) : Decidable (nxBad s was first) := inferInstanceAs (Decidable (_ ∨ _ ∨ (_ ∧ _)))
/-- the cursor behind it -/
def nxC (s : Cs) (was : Txt) (first : Bool) : Cs := if (nxS s was first).e ≠ 0 then nxS s was first else if nxBad s was first then (nxS s was first).failed 2 else nxS s was first
def nxT (s : Cs) (was : Txt) (first : Bool) : Txt := if (nxS s was first).e ≠ 0 then [] else nxX s was first
theorem CsOk.nxA (h : CsOk s) {was : Txt} {first : Bool} (hw : was.length ≤ 1000) : CsOk (nxA s was first) := by
  unfold Ytbkaoncopohdbaa.nxA; split
  · exact h
  · exact h.int' (by omega)
theorem CsOk.nxC (h : CsOk s) {was : Txt} {first : Bool} (hw : was.length ≤ 1000) : CsOk (nxC s was first) := by
  unfold Ytbkaoncopohdbaa.nxC nxS
  split
  · exact (h.nxA hw).text'
  · split
    · exact (h.nxA hw).text'.failed 2
    · exact (h.nxA hw).text'
theorem Cs.int'_b (s : Cs) (m : Int) : (s.int' m).b = s.b := Cs.moved_b s _ _
theorem Cs.text'_b (s : Cs) (m : Int) : (s.text' m).b = s.b := Cs.moved_b s _ _
theorem Cs.failed_b (s : Cs) (e : Int) : (s.failed e).b = s.b := by unfold Cs.failed; split <;> rfl
theorem nxA_b (s : Cs) (was : Txt) (first : Bool) : (nxA s was first).b = s.b := by
  unfold nxA; split
  · rfl
  · exact Cs.int'_b _ _
theorem nxC_b (s : Cs) (was : Txt) (first : Bool) : (nxC s was first).b = s.b := by
  unfold nxC nxS
  split
  · rw [Cs.text'_b, nxA_b]
  · split
    · rw [Cs.failed_b, Cs.text'_b, nxA_b]
    · rw [Cs.text'_b, nxA_b]
theorem nxN_le (s : Cs) (was : Txt) (first : Bool) (hw : was.length ≤ 1000) : nxN s was first ≤ was.length := by
  unfold nxN; split
  · omega
  · unfold Cs.int; split
    · omega
    · by_cases h : (limS s.rest was.length).2.2 = 0
      · have := (limS_facts s.rest was.length (by omega)).2.2.2 h; omega
      · rw [(limS_err h).1]; omega
theorem text_le (s : Cs) : (s.text 25).length ≤ 25 := by
  unfold Cs.text; split
  · simp
  · unfold textS; split
    · simp
    · split
      · simp
      · rename_i h1 h2
        have := (limS_facts s.rest 25 (by omega)).2.2.2 (by simpa using h1)
        simp only [List.length_take]
        omega
theorem next1_d {was : Txt} (hw : was.length ≤ 1000) (ho : CsOk s) (hb : Bor B w0 F 1 (.slice A s.b.length c) s.b.length (bv s.b)) :
    Does Try.prog B w0 55 [.pointer (some ⟨g, 0, none⟩), .string ⟨was.toArray⟩, .bool true] (Cv g A c s :: F) (fun r L => r = .string ⟨(nxT s was true).toArray⟩ ∧ L = Cv g A c (nxC s was true) :: F) := by
  have hA : nxA s was true = s := rfl
  have hN : nxN s was true = 0 := rfl
  have hS : nxS s was true = s.text' 25 := rfl
  have hX : nxX s was true = s.text 25 := by unfold nxX; rw [hN, hA]; rfl
  have hB : nxBad s was true ↔ (s.text 25 = [] ∨ ¬ mayT was (s.text 25)) := by unfold nxBad; rw [hX, hA]; simp
  have hC : nxC s was true = if (s.text' 25).e ≠ 0 then s.text' 25 else if nxBad s was true then (s.text' 25).failed 2 else s.text' 25 := rfl
  have hT : nxT s was true = if (s.text' 25).e ≠ 0 then [] else s.text 25 := by unfold nxT; rw [hX, hS]
  have htl := text_le s
  rw [hC, hT]
  clear hC hT hS hX hN hA
  refine fn_walk Try.func55 48 rfl rfl rfl [(0, .pointer (some ⟨g, 0, none⟩)), (1, .string ⟨was.toArray⟩), (2, .bool true)] ⟨⟨rfl, rfl⟩, ⟨rfl, rfl⟩, ⟨rfl, rfl⟩, trivial⟩ ?_
  refine vc_seq ?_
  refine vc_region ?_
  refine vl_det (det_assign rfl) rfl ?_
  refine vl_end [(0, _), (1, _), (2, _)] ⟨rfl, rfl, rfl, trivial⟩ ?_
  refine then_next ?_
  refine vc_seq ?_
  refine vc_region ?_
  refine vl_det (det_assign rfl) rfl ?_
  refine vl_end [(0, _), (1, _), (2, _), (7, _)] ⟨rfl, rfl, rfl, rfl, trivial⟩ ?_
  refine then_next ?_
  refine vc_seq ?_
  refine vc_seq ?_
  refine vc_region ?_
  refine vl_det (det_move rfl) rfl ?_
  refine vl_det (det_not_t rfl) rfl ?_
  refine vl_end [(0, _), (1, _), (2, _), (7, _), (11, _)] ⟨rfl, rfl, rfl, rfl, rfl, trivial⟩ ?_
  refine then_next ?_
  refine vc_cond_f rfl ?_
  refine vc_skip ?_
  refine then_next ?_
  refine vc_seq ?_
  refine vc_region ?_
  refine vl_det (det_move rfl) rfl ?_
  refine vl_call co60 rfl (ctext_d ho hb (most := 25) (by omega) (by omega)) rfl ?_
  rintro _ _ ⟨rfl, hLL⟩
  obtain rfl := hLL.symm
  refine vl_det (det_assign rfl) rfl ?_
  refine vl_end [(0, _), (1, _), (2, _), (7, _), (8, _)] ⟨rfl, rfl, rfl, rfl, rfl, trivial⟩ ?_
  refine then_next ?_
  refine vc_seq ?_
  refine vc_seq ?_
  refine vc_region ?_
  refine vl_det (det_move rfl) rfl ?_
  refine vl_call co38 rfl (cerr_d) rfl ?_
  rintro _ _ ⟨rfl, hLL⟩
  obtain rfl := hLL.symm
  refine vl_det (det_neq rfl rfl) rfl ?_
  refine vl_end [(0, _), (1, _), (2, _), (7, _), (8, _), (20, _)] ⟨rfl, rfl, rfl, rfl, rfl, rfl, trivial⟩ ?_
  refine then_next ?_
  refine vc_decideU rfl (fun h20 => ?_) (fun h20 => ?_)
  · skip
    refine vc_seq ?_
    refine vc_region ?_
    refine vl_det (det_assign rfl) rfl ?_
    refine vl_end [(6, _)] ⟨rfl, trivial⟩ ?_
    refine then_next ?_
    refine vc_ret ?_
    refine then_ret ?_
    refine ret1 rfl rfl ?_
    exact ⟨by rw [if_pos h20], by rw [if_pos h20]⟩
  · skip
    refine vc_skip ?_
    refine then_next ?_
    refine vc_seq ?_
    refine vc_region ?_
    refine vl_det (det_move rfl) rfl ?_
    refine vl_det (det_move rfl) rfl ?_
    refine vl_det (det_str_hi (i := 0) Try.underlying9 rfl rfl rfl (by omega)) rfl ?_
    refine vl_det (det_move rfl) rfl ?_
    refine vl_det (det_s_add (s := []) (r := s.text 25) rfl rfl (by simp only [List.length_nil]; omega)) rfl ?_
    refine vl_det (det_assign rfl) rfl ?_
    refine vl_end [(0, _), (1, _), (2, _), (7, _), (8, _), (9, _)] ⟨rfl, rfl, rfl, rfl, rfl, rfl, trivial⟩ ?_
    refine then_next ?_
    refine vc_seq ?_
    refine vc_seq ?_
    refine vc_region ?_
    refine vl_cut 19 44 [(0, _), (9, _)] (nxBad s was true) ⟨rfl, rfl, trivial⟩ ?_ ?_
    · skip
      refine vl_det (det_move rfl) rfl ?_
      refine vl_det (det_s_eql rfl rfl) rfl ?_
      refine vl_det (det_move rfl) rfl ?_
      refine vl_guardn rfl rfl rfl (fun h28 => ?_) (fun h28 => ?_)
      · skip
        refine vl_det (det_move rfl) rfl ?_
        refine vl_guard_t rfl rfl ?_
        refine vl_det (det_move rfl) rfl ?_
        refine vl_guard_t rfl rfl ?_
        refine vl_call co42 rfl (dmay_d was (s.text 25)) rfl ?_
        rintro _ _ ⟨rfl, hLL⟩
        obtain rfl := hLL.symm
        refine vl_guard_t rfl rfl ?_
        refine vl_det (det_notd rfl) rfl ?_
        refine vl_det (det_pick_f rfl rfl) rfl ?_
        refine vl_det (det_move rfl) rfl ?_
        refine vl_guardn rfl rfl rfl (fun h34 => ?_) (fun h34 => ?_)
        · skip
          refine vl_det (det_move rfl) rfl ?_
          refine vl_guard_t rfl rfl ?_
          refine vl_det (det_not_t rfl) rfl ?_
          refine vl_guard_t rfl rfl ?_
          refine vl_det (det_move rfl) rfl ?_
          refine vl_guard_f rfl rfl rfl rfl ?_
          refine vl_guard_f rfl rfl rfl rfl ?_
          refine vl_guard_f rfl rfl rfl rfl ?_
          refine vl_guard_f rfl rfl rfl rfl ?_
          refine vl_guard_f rfl rfl rfl rfl ?_
          refine vl_guard_t rfl rfl ?_
          refine vl_det (det_pick_f rfl rfl) rfl ?_
          refine vl_det (det_pick_f rfl rfl) rfl ?_
          exact vl_cut_end ⟨rfl, rfl, trivial⟩ (by first | rfl | exact bool_to_t (by first | exact hB.2 (.inl (by assumption)) | exact hB.2 (.inr (by assumption)) | exact fun h => (hB.1 h).elim (fun q => absurd q (by assumption)) (fun q => absurd q (by assumption))) | exact bool_to_f (by first | exact hB.2 (.inl (by assumption)) | exact hB.2 (.inr (by assumption)) | exact fun h => (hB.1 h).elim (fun q => absurd q (by assumption)) (fun q => absurd q (by assumption))) | exact bool_to (by first | exact hB.2 (.inl (by assumption)) | exact hB.2 (.inr (by assumption)) | exact fun h => (hB.1 h).elim (fun q => absurd q (by assumption)) (fun q => absurd q (by assumption))) | exact bool_to_b (by first | exact hB.2 (.inl (by assumption)) | exact hB.2 (.inr (by assumption)) | exact fun h => (hB.1 h).elim (fun q => absurd q (by assumption)) (fun q => absurd q (by assumption))))
        · skip
          refine vl_guard_f rfl rfl rfl rfl ?_
          refine vl_guard_f rfl rfl rfl rfl ?_
          refine vl_guard_u rfl rfl rfl ?_
          refine vl_guard_u rfl rfl rfl ?_
          refine vl_guard_u rfl rfl rfl ?_
          refine vl_guard_u rfl rfl rfl ?_
          refine vl_guard_u rfl rfl rfl ?_
          refine vl_guard_f rfl rfl rfl rfl ?_
          refine vl_det (det_pick_t rfl rfl) rfl ?_
          exact vl_cut_end ⟨rfl, rfl, trivial⟩ (by first | rfl | exact bool_to_t (by first | exact hB.2 (.inl (by assumption)) | exact hB.2 (.inr (by assumption)) | exact fun h => (hB.1 h).elim (fun q => absurd q (by assumption)) (fun q => absurd q (by assumption))) | exact bool_to_f (by first | exact hB.2 (.inl (by assumption)) | exact hB.2 (.inr (by assumption)) | exact fun h => (hB.1 h).elim (fun q => absurd q (by assumption)) (fun q => absurd q (by assumption))) | exact bool_to (by first | exact hB.2 (.inl (by assumption)) | exact hB.2 (.inr (by assumption)) | exact fun h => (hB.1 h).elim (fun q => absurd q (by assumption)) (fun q => absurd q (by assumption))) | exact bool_to_b (by first | exact hB.2 (.inl (by assumption)) | exact hB.2 (.inr (by assumption)) | exact fun h => (hB.1 h).elim (fun q => absurd q (by assumption)) (fun q => absurd q (by assumption))))
      · skip
        refine vl_guard_f rfl rfl rfl rfl ?_
        refine vl_guard_f rfl rfl rfl rfl ?_
        refine vl_guard_f rfl rfl rfl rfl ?_
        refine vl_det (det_pick_t rfl rfl) rfl ?_
        refine vl_det (det_move rfl) rfl ?_
        refine vl_guard_f rfl rfl rfl rfl ?_
        refine vl_guard_f rfl rfl rfl rfl ?_
        refine vl_guard_f rfl rfl rfl rfl ?_
        refine vl_guard_u rfl rfl rfl ?_
        refine vl_guard_u rfl rfl rfl ?_
        refine vl_guard_u rfl rfl rfl ?_
        refine vl_guard_u rfl rfl rfl ?_
        refine vl_guard_u rfl rfl rfl ?_
        refine vl_guard_f rfl rfl rfl rfl ?_
        refine vl_det (det_pick_t rfl rfl) rfl ?_
        exact vl_cut_end ⟨rfl, rfl, trivial⟩ (by first | rfl | exact bool_to_t (by first | exact hB.2 (.inl (by assumption)) | exact hB.2 (.inr (by assumption)) | exact fun h => (hB.1 h).elim (fun q => absurd q (by assumption)) (fun q => absurd q (by assumption))) | exact bool_to_f (by first | exact hB.2 (.inl (by assumption)) | exact hB.2 (.inr (by assumption)) | exact fun h => (hB.1 h).elim (fun q => absurd q (by assumption)) (fun q => absurd q (by assumption))) | exact bool_to (by first | exact hB.2 (.inl (by assumption)) | exact hB.2 (.inr (by assumption)) | exact fun h => (hB.1 h).elim (fun q => absurd q (by assumption)) (fun q => absurd q (by assumption))) | exact bool_to_b (by first | exact hB.2 (.inl (by assumption)) | exact hB.2 (.inr (by assumption)) | exact fun h => (hB.1 h).elim (fun q => absurd q (by assumption)) (fun q => absurd q (by assumption))))
    · skip
      refine vl_end [(0, _), (9, _), (44, _)] ⟨rfl, rfl, rfl, trivial⟩ ?_
      refine then_next ?_
      refine vc_decideU rfl (fun h44 => ?_) (fun h44 => ?_)
      · skip
        refine vc_region ?_
        refine vl_det (det_move rfl) rfl ?_
        refine vl_call co61 rfl (cfail_d 2) rfl ?_
        rintro _ _ ⟨rfl, hLL⟩
        obtain rfl := hLL.symm
        refine vl_end [(9, _)] ⟨rfl, trivial⟩ ?_
        refine then_next ?_
        refine vc_seq ?_
        refine vc_region ?_
        refine vl_det (det_move rfl) rfl ?_
        refine vl_det (det_assign rfl) rfl ?_
        refine vl_end [(6, _)] ⟨rfl, trivial⟩ ?_
        refine then_next ?_
        refine vc_ret ?_
        refine ret1 rfl rfl ?_
        exact ⟨by rw [if_neg h20]; rfl, by rw [if_neg h20, if_pos h44]⟩
      · skip
        refine vc_skip ?_
        refine then_next ?_
        refine vc_seq ?_
        refine vc_region ?_
        refine vl_det (det_move rfl) rfl ?_
        refine vl_det (det_assign rfl) rfl ?_
        refine vl_end [(6, _)] ⟨rfl, trivial⟩ ?_
        refine then_next ?_
        refine vc_ret ?_
        refine ret1 rfl rfl ?_
        exact ⟨by rw [if_neg h20]; rfl, by rw [if_neg h20, if_neg h44]⟩
theorem next2_d {was : Txt} (hw : was.length ≤ 1000) (ho : CsOk s) (hb : Bor B w0 F 1 (.slice A s.b.length c) s.b.length (bv s.b)) :
    Does Try.prog B w0 55 [.pointer (some ⟨g, 0, none⟩), .string ⟨was.toArray⟩, .bool false] (Cv g A c s :: F) (fun r L => r = .string ⟨(nxT s was false).toArray⟩ ∧ L = Cv g A c (nxC s was false) :: F) := by
  have hA : nxA s was false = s.int' was.length := rfl
  have hN : nxN s was false = s.int was.length := rfl
  have hS : nxS s was false = (s.int' was.length).text' 25 := rfl
  have hX : nxX s was false = was.take (s.int was.length) ++ (s.int' was.length).text 25 := rfl
  have hB : nxBad s was false ↔ ((s.int' was.length).text 25 = [] ∨ ¬ mayT was (nxX s was false) ∨ lcp was (nxX s was false) ≠ s.int was.length) := by unfold nxBad; rw [hN, hA]; simp
  have hC : nxC s was false = if ((s.int' was.length).text' 25).e ≠ 0 then (s.int' was.length).text' 25 else if nxBad s was false then ((s.int' was.length).text' 25).failed 2 else (s.int' was.length).text' 25 := rfl
  have hT : nxT s was false = if ((s.int' was.length).text' 25).e ≠ 0 then [] else nxX s was false := rfl
  have htl := text_le (s.int' was.length)
  have hnl := nxN_le s was false hw
  have ho2 : CsOk (s.int' was.length) := ho.int' (by omega)
  have hb2 : Bor B w0 F 1 (.slice A (s.int' was.length).b.length c) (s.int' was.length).b.length (bv (s.int' was.length).b) := by rw [Cs.int'_b]; exact hb
  rw [hC, hT]
  rw [hX] at *
  rw [hN] at hnl
  clear hC hT hS hN hA
  refine fn_walk Try.func55 48 rfl rfl rfl [(0, .pointer (some ⟨g, 0, none⟩)), (1, .string ⟨was.toArray⟩), (2, .bool false)] ⟨⟨rfl, rfl⟩, ⟨rfl, rfl⟩, ⟨rfl, rfl⟩, trivial⟩ ?_
  refine vc_seq ?_
  refine vc_region ?_
  refine vl_det (det_assign rfl) rfl ?_
  refine vl_end [(0, _), (1, _), (2, _)] ⟨rfl, rfl, rfl, trivial⟩ ?_
  refine then_next ?_
  refine vc_seq ?_
  refine vc_region ?_
  refine vl_det (det_assign rfl) rfl ?_
  refine vl_end [(0, _), (1, _), (2, _), (7, _)] ⟨rfl, rfl, rfl, rfl, trivial⟩ ?_
  refine then_next ?_
  refine vc_seq ?_
  refine vc_seq ?_
  refine vc_region ?_
  refine vl_det (det_move rfl) rfl ?_
  refine vl_det (det_not_f rfl) rfl ?_
  refine vl_end [(0, _), (1, _), (2, _), (7, _), (11, _)] ⟨rfl, rfl, rfl, rfl, rfl, trivial⟩ ?_
  refine then_next ?_
  refine vc_cond_t rfl ?_
  refine vc_region ?_
  refine vl_det (det_move rfl) rfl ?_
  refine vl_det (det_move rfl) rfl ?_
  refine vl_det (det_len_s Try.underlying9 rfl) rfl ?_
  refine vl_call co37 rfl (cint_d ho hb (most := was.length) (by omega) (by omega)) rfl ?_
  rintro _ _ ⟨rfl, hLL⟩
  obtain rfl := hLL.symm
  refine vl_det (det_assign rfl) rfl ?_
  refine vl_end [(0, _), (1, _), (2, _), (7, _)] ⟨rfl, rfl, rfl, rfl, trivial⟩ ?_
  refine then_next ?_
  refine vc_seq ?_
  refine vc_region ?_
  refine vl_det (det_move rfl) rfl ?_
  refine vl_call co60 rfl (ctext_d ho2 hb2 (most := 25) (by omega) (by omega)) rfl ?_
  rintro _ _ ⟨rfl, hLL⟩
  obtain rfl := hLL.symm
  refine vl_det (det_assign rfl) rfl ?_
  refine vl_end [(0, _), (1, _), (2, _), (7, _), (8, _)] ⟨rfl, rfl, rfl, rfl, rfl, trivial⟩ ?_
  refine then_next ?_
  refine vc_seq ?_
  refine vc_seq ?_
  refine vc_region ?_
  refine vl_det (det_move rfl) rfl ?_
  refine vl_call co38 rfl (cerr_d) rfl ?_
  rintro _ _ ⟨rfl, hLL⟩
  obtain rfl := hLL.symm
  refine vl_det (det_neq rfl rfl) rfl ?_
  refine vl_end [(0, _), (1, _), (2, _), (7, _), (8, _), (20, _)] ⟨rfl, rfl, rfl, rfl, rfl, rfl, trivial⟩ ?_
  refine then_next ?_
  refine vc_decideU rfl (fun h20 => ?_) (fun h20 => ?_)
  · skip
    refine vc_seq ?_
    refine vc_region ?_
    refine vl_det (det_assign rfl) rfl ?_
    refine vl_end [(6, _)] ⟨rfl, trivial⟩ ?_
    refine then_next ?_
    refine vc_ret ?_
    refine then_ret ?_
    refine ret1 rfl rfl ?_
    exact ⟨by rw [if_pos h20], by rw [if_pos h20]⟩
  · skip
    refine vc_skip ?_
    refine then_next ?_
    refine vc_seq ?_
    refine vc_region ?_
    refine vl_det (det_move rfl) rfl ?_
    refine vl_det (det_move rfl) rfl ?_
    refine vl_det (det_str_hi (i := s.int was.length) Try.underlying9 rfl rfl rfl (by omega)) rfl ?_
    refine vl_det (det_move rfl) rfl ?_
    refine vl_det (det_s_add (s := was.take (s.int was.length)) (r := (s.int' was.length).text 25) rfl rfl (by simp only [List.length_take]; omega)) rfl ?_
    refine vl_det (det_assign rfl) rfl ?_
    refine vl_end [(0, _), (1, _), (2, _), (7, _), (8, _), (9, _)] ⟨rfl, rfl, rfl, rfl, rfl, rfl, trivial⟩ ?_
    refine then_next ?_
    refine vc_seq ?_
    refine vc_seq ?_
    refine vc_region ?_
    refine vl_cut 19 44 [(0, _), (9, _)] (nxBad s was false) ⟨rfl, rfl, trivial⟩ ?_ ?_
    · skip
      refine vl_det (det_move rfl) rfl ?_
      refine vl_det (det_s_eql rfl rfl) rfl ?_
      refine vl_det (det_move rfl) rfl ?_
      refine vl_guardn rfl rfl rfl (fun h28 => ?_) (fun h28 => ?_)
      · skip
        refine vl_det (det_move rfl) rfl ?_
        refine vl_guard_t rfl rfl ?_
        refine vl_det (det_move rfl) rfl ?_
        refine vl_guard_t rfl rfl ?_
        refine vl_call co42 rfl (dmay_d was (was.take (s.int was.length) ++ (s.int' was.length).text 25)) rfl ?_
        rintro _ _ ⟨rfl, hLL⟩
        obtain rfl := hLL.symm
        refine vl_guard_t rfl rfl ?_
        refine vl_det (det_notd rfl) rfl ?_
        refine vl_det (det_pick_f rfl rfl) rfl ?_
        refine vl_det (det_move rfl) rfl ?_
        refine vl_guardn rfl rfl rfl (fun h34 => ?_) (fun h34 => ?_)
        · skip
          refine vl_det (det_move rfl) rfl ?_
          refine vl_guard_t rfl rfl ?_
          refine vl_det (det_not_f rfl) rfl ?_
          refine vl_guard_t rfl rfl ?_
          refine vl_det (det_move rfl) rfl ?_
          refine vl_guard_t rfl rfl ?_
          refine vl_det (det_move rfl) rfl ?_
          refine vl_guard_t rfl rfl ?_
          refine vl_det (det_move rfl) rfl ?_
          refine vl_guard_t rfl rfl ?_
          refine vl_call co45 rfl (dsame_d was (was.take (s.int was.length) ++ (s.int' was.length).text 25) (by omega)) rfl ?_
          rintro _ _ ⟨rfl, hLL⟩
          obtain rfl := hLL.symm
          refine vl_guard_t rfl rfl ?_
          refine vl_det (det_move rfl) rfl ?_
          refine vl_guard_t rfl rfl ?_
          refine vl_det (det_neq rfl rfl) rfl ?_
          refine vl_guard_t rfl rfl ?_
          refine vl_det (det_pick_t rfl rfl) rfl ?_
          refine vl_det (det_pick_f rfl rfl) rfl ?_
          exact vl_cut_end ⟨rfl, rfl, trivial⟩ (by first | rfl | exact bool_to_t (by first | exact hB.2 (.inl (by assumption)) | exact hB.2 (.inr (.inl (by assumption))) | exact ⟨fun h => hB.2 (.inr (.inr (by omega))), fun h => (hB.1 h).elim (fun q => absurd q (by assumption)) (fun q => q.elim (fun q => absurd q (by assumption)) (fun q => by omega))⟩) | exact bool_to_f (by first | exact hB.2 (.inl (by assumption)) | exact hB.2 (.inr (.inl (by assumption))) | exact ⟨fun h => hB.2 (.inr (.inr (by omega))), fun h => (hB.1 h).elim (fun q => absurd q (by assumption)) (fun q => q.elim (fun q => absurd q (by assumption)) (fun q => by omega))⟩) | exact bool_to (by first | exact hB.2 (.inl (by assumption)) | exact hB.2 (.inr (.inl (by assumption))) | exact ⟨fun h => hB.2 (.inr (.inr (by omega))), fun h => (hB.1 h).elim (fun q => absurd q (by assumption)) (fun q => q.elim (fun q => absurd q (by assumption)) (fun q => by omega))⟩) | exact bool_to_b (by first | exact hB.2 (.inl (by assumption)) | exact hB.2 (.inr (.inl (by assumption))) | exact ⟨fun h => hB.2 (.inr (.inr (by omega))), fun h => (hB.1 h).elim (fun q => absurd q (by assumption)) (fun q => q.elim (fun q => absurd q (by assumption)) (fun q => by omega))⟩))
        · skip
          refine vl_guard_f rfl rfl rfl rfl ?_
          refine vl_guard_f rfl rfl rfl rfl ?_
          refine vl_guard_u rfl rfl rfl ?_
          refine vl_guard_u rfl rfl rfl ?_
          refine vl_guard_u rfl rfl rfl ?_
          refine vl_guard_u rfl rfl rfl ?_
          refine vl_guard_u rfl rfl rfl ?_
          refine vl_guard_f rfl rfl rfl rfl ?_
          refine vl_det (det_pick_t rfl rfl) rfl ?_
          exact vl_cut_end ⟨rfl, rfl, trivial⟩ (by first | rfl | exact bool_to_t (by first | exact hB.2 (.inl (by assumption)) | exact hB.2 (.inr (.inl (by assumption))) | exact ⟨fun h => hB.2 (.inr (.inr (by omega))), fun h => (hB.1 h).elim (fun q => absurd q (by assumption)) (fun q => q.elim (fun q => absurd q (by assumption)) (fun q => by omega))⟩) | exact bool_to_f (by first | exact hB.2 (.inl (by assumption)) | exact hB.2 (.inr (.inl (by assumption))) | exact ⟨fun h => hB.2 (.inr (.inr (by omega))), fun h => (hB.1 h).elim (fun q => absurd q (by assumption)) (fun q => q.elim (fun q => absurd q (by assumption)) (fun q => by omega))⟩) | exact bool_to (by first | exact hB.2 (.inl (by assumption)) | exact hB.2 (.inr (.inl (by assumption))) | exact ⟨fun h => hB.2 (.inr (.inr (by omega))), fun h => (hB.1 h).elim (fun q => absurd q (by assumption)) (fun q => q.elim (fun q => absurd q (by assumption)) (fun q => by omega))⟩) | exact bool_to_b (by first | exact hB.2 (.inl (by assumption)) | exact hB.2 (.inr (.inl (by assumption))) | exact ⟨fun h => hB.2 (.inr (.inr (by omega))), fun h => (hB.1 h).elim (fun q => absurd q (by assumption)) (fun q => q.elim (fun q => absurd q (by assumption)) (fun q => by omega))⟩))
      · skip
        refine vl_guard_f rfl rfl rfl rfl ?_
        refine vl_guard_f rfl rfl rfl rfl ?_
        refine vl_guard_f rfl rfl rfl rfl ?_
        refine vl_det (det_pick_t rfl rfl) rfl ?_
        refine vl_det (det_move rfl) rfl ?_
        refine vl_guard_f rfl rfl rfl rfl ?_
        refine vl_guard_f rfl rfl rfl rfl ?_
        refine vl_guard_f rfl rfl rfl rfl ?_
        refine vl_guard_u rfl rfl rfl ?_
        refine vl_guard_u rfl rfl rfl ?_
        refine vl_guard_u rfl rfl rfl ?_
        refine vl_guard_u rfl rfl rfl ?_
        refine vl_guard_u rfl rfl rfl ?_
        refine vl_guard_f rfl rfl rfl rfl ?_
        refine vl_det (det_pick_t rfl rfl) rfl ?_
        exact vl_cut_end ⟨rfl, rfl, trivial⟩ (by first | rfl | exact bool_to_t (by first | exact hB.2 (.inl (by assumption)) | exact hB.2 (.inr (.inl (by assumption))) | exact ⟨fun h => hB.2 (.inr (.inr (by omega))), fun h => (hB.1 h).elim (fun q => absurd q (by assumption)) (fun q => q.elim (fun q => absurd q (by assumption)) (fun q => by omega))⟩) | exact bool_to_f (by first | exact hB.2 (.inl (by assumption)) | exact hB.2 (.inr (.inl (by assumption))) | exact ⟨fun h => hB.2 (.inr (.inr (by omega))), fun h => (hB.1 h).elim (fun q => absurd q (by assumption)) (fun q => q.elim (fun q => absurd q (by assumption)) (fun q => by omega))⟩) | exact bool_to (by first | exact hB.2 (.inl (by assumption)) | exact hB.2 (.inr (.inl (by assumption))) | exact ⟨fun h => hB.2 (.inr (.inr (by omega))), fun h => (hB.1 h).elim (fun q => absurd q (by assumption)) (fun q => q.elim (fun q => absurd q (by assumption)) (fun q => by omega))⟩) | exact bool_to_b (by first | exact hB.2 (.inl (by assumption)) | exact hB.2 (.inr (.inl (by assumption))) | exact ⟨fun h => hB.2 (.inr (.inr (by omega))), fun h => (hB.1 h).elim (fun q => absurd q (by assumption)) (fun q => q.elim (fun q => absurd q (by assumption)) (fun q => by omega))⟩))
    · skip
      refine vl_end [(0, _), (9, _), (44, _)] ⟨rfl, rfl, rfl, trivial⟩ ?_
      refine then_next ?_
      refine vc_decideU rfl (fun h44 => ?_) (fun h44 => ?_)
      · skip
        refine vc_region ?_
        refine vl_det (det_move rfl) rfl ?_
        refine vl_call co61 rfl (cfail_d 2) rfl ?_
        rintro _ _ ⟨rfl, hLL⟩
        obtain rfl := hLL.symm
        refine vl_end [(9, _)] ⟨rfl, trivial⟩ ?_
        refine then_next ?_
        refine vc_seq ?_
        refine vc_region ?_
        refine vl_det (det_move rfl) rfl ?_
        refine vl_det (det_assign rfl) rfl ?_
        refine vl_end [(6, _)] ⟨rfl, trivial⟩ ?_
        refine then_next ?_
        refine vc_ret ?_
        refine ret1 rfl rfl ?_
        exact ⟨by rw [if_neg h20], by rw [if_neg h20, if_pos h44]⟩
      · skip
        refine vc_skip ?_
        refine then_next ?_
        refine vc_seq ?_
        refine vc_region ?_
        refine vl_det (det_move rfl) rfl ?_
        refine vl_det (det_assign rfl) rfl ?_
        refine vl_end [(6, _)] ⟨rfl, trivial⟩ ?_
        refine then_next ?_
        refine vc_ret ?_
        refine ret1 rfl rfl ?_
        exact ⟨by rw [if_neg h20], by rw [if_neg h20, if_neg h44]⟩
end Go.Proofs.Ytbkaoncopohdbaa
