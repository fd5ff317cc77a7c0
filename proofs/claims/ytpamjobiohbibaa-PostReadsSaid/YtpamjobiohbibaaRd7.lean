/-
  Texts of one proof, joined: part 7. No condition.
-/
import Derived.Test.YtpamjobiohbibaaRd6
namespace Go.Proofs.Ytpamjobiohbibaa
open Go.RowKit
set_option linter.unusedVariables false
set_option maxRecDepth 20000
variable {B : Nat} {w0 : World} {F : List Ch} {A A1 A2 : Option Addr} {n c c1 c2 g : Nat} {s : Cs}
theorem cend_d (ho : CsOk s) (hb : Bor B w0 F 1 (.slice A s.b.length c) s.b.length (bv s.b)) :
    Does Try.prog B w0 122 [.pointer (some ⟨g, 0, none⟩)] (Cv g A c s :: F) (fun r L => r = .int .i64 s.end'.e ∧ L = Cv g A c s.end' :: F) := by
  refine fn_walk Try.func122 10 rfl rfl rfl [(0, .pointer (some ⟨g, 0, none⟩))] ⟨⟨rfl, rfl⟩, trivial⟩ ?_
  refine vc_seq ?_
  refine vc_region ?_
  refine vl_det (det_assign rfl) rfl ?_
  refine vl_end [(0, _)] ⟨rfl, trivial⟩ ?_
  refine then_next ?_
  refine vc_seq ?_
  refine vc_seq ?_
  refine vc_region ?_
  refine vl_det (det_move rfl) rfl ?_
  refine vl_call co138 rfl (cleft_d ho hb) rfl ?_
  rintro _ _ ⟨rfl, hLL⟩
  obtain rfl := hLL.symm
  refine vl_det (det_gtr rfl rfl) rfl ?_
  refine vl_end [(0, _), (5, _)] ⟨rfl, rfl, trivial⟩ ?_
  refine then_next ?_
  refine vc_decideU rfl (fun h5 => ?_) (fun h5 => ?_)
  · skip
    have he : s.end' = s.failed 2 := if_pos (by omega)
    refine vc_region ?_
    refine vl_det (det_move rfl) rfl ?_
    refine vl_call co137 rfl (cfail_d 2) rfl ?_
    rintro _ _ ⟨rfl, hLL⟩
    obtain rfl := hLL.symm
    refine vl_end [(0, _)] ⟨rfl, trivial⟩ ?_
    refine then_next ?_
    refine vc_seq ?_
    refine vc_region ?_
    refine vl_det (det_move rfl) rfl ?_
    refine vl_call co81 rfl (cerr_d) rfl ?_
    rintro _ _ ⟨rfl, hLL⟩
    obtain rfl := hLL.symm
    refine vl_det (det_assign rfl) rfl ?_
    refine vl_end [(2, _)] ⟨rfl, trivial⟩ ?_
    refine then_next ?_
    refine vc_ret ?_
    refine ret1 rfl rfl ?_
    rw [he]; exact ⟨rfl, rfl⟩
  · skip
    have he : s.end' = s := if_neg (by omega)
    refine vc_skip ?_
    refine then_next ?_
    refine vc_seq ?_
    refine vc_region ?_
    refine vl_det (det_move rfl) rfl ?_
    refine vl_call co81 rfl (cerr_d) rfl ?_
    rintro _ _ ⟨rfl, hLL⟩
    obtain rfl := hLL.symm
    refine vl_det (det_assign rfl) rfl ?_
    refine vl_end [(2, _)] ⟨rfl, trivial⟩ ?_
    refine then_next ?_
    refine vc_ret ?_
    refine ret1 rfl rfl ?_
    rw [he]; exact ⟨rfl, rfl⟩
theorem dcat_d : Does Try.prog B w0 84 [.pointer (some ⟨g, 0, none⟩)] (Cv g A c s :: F) (fun r L => r = .int .i64 s.at_ ∧ L = Cv g A c s :: F) := by
  refine fn_walk Try.func84 10 rfl rfl rfl [(0, .pointer (some ⟨g, 0, none⟩))] ⟨⟨rfl, rfl⟩, trivial⟩ ?_
  refine vc_seq ?_
  refine vc_region ?_
  refine vl_det (det_assign rfl) rfl ?_
  refine vl_end [(0, _)] ⟨rfl, trivial⟩ ?_
  refine then_next ?_
  refine vc_seq ?_
  refine vc_seq ?_
  refine vc_region ?_
  refine vl_det (det_move rfl) rfl ?_
  refine vl_det (det_ptr_nil Try.underlying118 rfl rfl) rfl ?_
  refine vl_end [(0, _), (4, _)] ⟨rfl, rfl, trivial⟩ ?_
  refine then_next ?_
  refine vc_cond_f rfl ?_
  refine vc_skip ?_
  refine then_next ?_
  refine vc_seq ?_
  refine vc_region ?_
  refine vl_det (det_move rfl) rfl ?_
  refine vl_det (det_nilCheck rfl) rfl ?_
  refine vl_det (det_fieldAddr_ Try.underlying168 rfl (by kernel_rfl) rfl rfl) rfl ?_
  refine vl_det (det_fieldAddr_ Try.underlying166 rfl (by kernel_rfl) rfl rfl) rfl ?_
  refine vl_det (det_load_blk (by kernel_rfl) rfl (by repeat (first | exact .hd | apply Sel.tl)) rfl) rfl ?_
  refine vl_det (det_assign rfl) rfl ?_
  refine vl_end [(2, _)] ⟨rfl, trivial⟩ ?_
  refine then_next ?_
  refine vc_ret ?_
  refine ret1 rfl rfl ?_
  exact ⟨rfl, rfl⟩
/-! a dictionary's next text: behind was, first of its bucket or not -/
def nxN (s : Cs) (was : Txt) (first : Bool) : Nat := if first then 0 else s.int was.length
def nxA (s : Cs) (was : Txt) (first : Bool) : Cs := if first then s else s.int' was.length
def nxS (s : Cs) (was : Txt) (first : Bool) : Cs := (nxA s was first).text' 25
def nxX (s : Cs) (was : Txt) (first : Bool) : Txt := was.take (nxN s was first) ++ (nxA s was first).text 25
def nxBad (s : Cs) (was : Txt) (first : Bool) : Prop := (nxA s was first).text 25 = [] ∨ ¬ mayT was (nxX s was first) ∨ (first = false ∧ lcp was (nxX s was first) ≠ nxN s was first)
instance (s : Cs) (was : Txt) (first : Bool) : Decidable (nxBad s was first) := inferInstanceAs (Decidable (_ ∨ _ ∨ (_ ∧ _)))
/-- the cursor behind it -/
def nxC (s : Cs) (was : Txt) (first : Bool) : Cs := if (nxS s was first).e ≠ 0 then nxS s was first else if nxBad s was first then (nxS s was first).failed 2 else nxS s was first
def nxT (s : Cs) (was : Txt) (first : Bool) : Txt := if (nxS s was first).e ≠ 0 then [] else nxX s was first
theorem CsOk.nxA (h : CsOk s) {was : Txt} {first : Bool} (hw : was.length ≤ 1000) : CsOk (nxA s was first) := by
  unfold Ytpamjobiohbibaa.nxA; split
  · exact h
  · exact h.int' (by omega)
theorem CsOk.nxC (h : CsOk s) {was : Txt} {first : Bool} (hw : was.length ≤ 1000) : CsOk (nxC s was first) := by
  unfold Ytpamjobiohbibaa.nxC nxS
  split
  · exact (h.nxA hw).text'
  · split
    · exact (h.nxA hw).text'.failed 2
    · exact (h.nxA hw).text'
theorem Cs.int'_b (s : Cs) (m : Int) : (s.int' m).b = s.b := Cs.moved_b s _ _
theorem Cs.text'_b (s : Cs) (m : Int) : (s.text' m).b = s.b := Cs.moved_b s _ _
theorem Cs.failed_b (s : Cs) (e : Int) : (s.failed e).b = s.b := by unfold Cs.failed; split <;> rfl
theorem nxA_b (s : Cs) (was : Txt) (first : Bool) : (nxA s was first).b = s.b := by
  unfold nxA; split
  · rfl
  · exact Cs.int'_b _ _
theorem nxC_b (s : Cs) (was : Txt) (first : Bool) : (nxC s was first).b = s.b := by
  unfold nxC nxS
  split
  · rw [Cs.text'_b, nxA_b]
  · split
    · rw [Cs.failed_b, Cs.text'_b, nxA_b]
    · rw [Cs.text'_b, nxA_b]
theorem nxN_le (s : Cs) (was : Txt) (first : Bool) (hw : was.length ≤ 1000) : nxN s was first ≤ was.length := by
  unfold nxN; split
  · omega
  · unfold Cs.int; split
    · omega
    · by_cases h : (limS s.rest was.length).2.2 = 0
      · have := (limS_facts s.rest was.length (by omega)).2.2.2 h; omega
      · rw [(limS_err h).1]; omega
theorem text_le (s : Cs) : (s.text 25).length ≤ 25 := by
  unfold Cs.text; split
  · simp
  · unfold textS; split
    · simp
    · split
      · simp
      · rename_i h1 h2
        have := (limS_facts s.rest 25 (by omega)).2.2.2 (by simpa using h1)
        simp only [List.length_take]
        omega
theorem next1_d {was : Txt} (hw : was.length ≤ 1000) (ho : CsOk s) (hb : Bor B w0 F 1 (.slice A s.b.length c) s.b.length (bv s.b)) :
    Does Try.prog B w0 121 [.pointer (some ⟨g, 0, none⟩), .string ⟨was.toArray⟩, .bool true] (Cv g A c s :: F) (fun r L => r = .string ⟨(nxT s was true).toArray⟩ ∧ L = Cv g A c (nxC s was true) :: F) := by
  have hA : nxA s was true = s := rfl
  have hN : nxN s was true = 0 := rfl
  have hS : nxS s was true = s.text' 25 := rfl
  have hX : nxX s was true = s.text 25 := by unfold nxX; rw [hN, hA]; rfl
  have hB : nxBad s was true ↔ (s.text 25 = [] ∨ ¬ mayT was (s.text 25)) := by unfold nxBad; rw [hX, hA]; simp
  have hC : nxC s was true = if (s.text' 25).e ≠ 0 then s.text' 25 else if nxBad s was true then (s.text' 25).failed 2 else s.text' 25 := rfl
  have hT : nxT s was true = if (s.text' 25).e ≠ 0 then [] else s.text 25 := by unfold nxT; rw [hX, hS]
  have htl := text_le s
  rw [hC, hT]
  clear hC hT hS hX hN hA
  refine fn_walk Try.func121 48 rfl rfl rfl [(0, .pointer (some ⟨g, 0, none⟩)), (1, .string ⟨was.toArray⟩), (2, .bool true)] ⟨⟨rfl, rfl⟩, ⟨rfl, rfl⟩, ⟨rfl, rfl⟩, trivial⟩ ?_
  refine vc_seq ?_
  refine vc_region ?_
  refine vl_det (det_assign rfl) rfl ?_
  refine vl_end [(0, _), (1, _), (2, _)] ⟨rfl, rfl, rfl, trivial⟩ ?_
  refine then_next ?_
  refine vc_seq ?_
  refine vc_region ?_
  refine vl_det (det_assign rfl) rfl ?_
  refine vl_end [(0, _), (1, _), (2, _), (7, _)] ⟨rfl, rfl, rfl, rfl, trivial⟩ ?_
  refine then_next ?_
  refine vc_seq ?_
  refine vc_seq ?_
  refine vc_region ?_
  refine vl_det (det_move rfl) rfl ?_
  refine vl_det (det_not_t rfl) rfl ?_
  refine vl_end [(0, _), (1, _), (2, _), (7, _), (11, _)] ⟨rfl, rfl, rfl, rfl, rfl, trivial⟩ ?_
  refine then_next ?_
  refine vc_cond_f rfl ?_
  refine vc_skip ?_
  refine then_next ?_
  refine vc_seq ?_
  refine vc_region ?_
  refine vl_det (det_move rfl) rfl ?_
  refine vl_call co136 rfl (ctext_d ho hb (most := 25) (by omega) (by omega)) rfl ?_
  rintro _ _ ⟨rfl, hLL⟩
  obtain rfl := hLL.symm
  refine vl_det (det_assign rfl) rfl ?_
  refine vl_end [(0, _), (1, _), (2, _), (7, _), (8, _)] ⟨rfl, rfl, rfl, rfl, rfl, trivial⟩ ?_
  refine then_next ?_
  refine vc_seq ?_
  refine vc_seq ?_
  refine vc_region ?_
  refine vl_det (det_move rfl) rfl ?_
  refine vl_call co81 rfl (cerr_d) rfl ?_
  rintro _ _ ⟨rfl, hLL⟩
  obtain rfl := hLL.symm
  refine vl_det (det_neq rfl rfl) rfl ?_
  refine vl_end [(0, _), (1, _), (2, _), (7, _), (8, _), (20, _)] ⟨rfl, rfl, rfl, rfl, rfl, rfl, trivial⟩ ?_
  refine then_next ?_
  refine vc_decideU rfl (fun h20 => ?_) (fun h20 => ?_)
  · skip
    refine vc_seq ?_
    refine vc_region ?_
    refine vl_det (det_assign rfl) rfl ?_
    refine vl_end [(6, _)] ⟨rfl, trivial⟩ ?_
    refine then_next ?_
    refine vc_ret ?_
    refine then_ret ?_
    refine ret1 rfl rfl ?_
    exact ⟨by rw [if_pos h20], by rw [if_pos h20]⟩
  · skip
    refine vc_skip ?_
    refine then_next ?_
    refine vc_seq ?_
    refine vc_region ?_
    refine vl_det (det_move rfl) rfl ?_
    refine vl_det (det_move rfl) rfl ?_
    refine vl_det (det_str_hi (i := 0) Try.underlying9 rfl rfl rfl (by omega)) rfl ?_
    refine vl_det (det_move rfl) rfl ?_
    refine vl_det (det_s_add (s := []) (r := s.text 25) rfl rfl (by simp only [List.length_nil]; omega)) rfl ?_
    refine vl_det (det_assign rfl) rfl ?_
    refine vl_end [(0, _), (1, _), (2, _), (7, _), (8, _), (9, _)] ⟨rfl, rfl, rfl, rfl, rfl, rfl, trivial⟩ ?_
    refine then_next ?_
    refine vc_seq ?_
    refine vc_seq ?_
    refine vc_region ?_
    refine vl_cut 19 44 [(0, _), (9, _)] (nxBad s was true) ⟨rfl, rfl, trivial⟩ ?_ ?_
    · skip
      refine vl_det (det_move rfl) rfl ?_
      refine vl_det (det_s_eql rfl rfl) rfl ?_
      refine vl_det (det_move rfl) rfl ?_
      refine vl_guardn rfl rfl rfl (fun h28 => ?_) (fun h28 => ?_)
      · skip
        refine vl_det (det_move rfl) rfl ?_
        refine vl_guard_t rfl rfl ?_
        refine vl_det (det_move rfl) rfl ?_
        refine vl_guard_t rfl rfl ?_
        refine vl_call co110 rfl (dmay_d was (s.text 25)) rfl ?_
        rintro _ _ ⟨rfl, hLL⟩
        obtain rfl := hLL.symm
        refine vl_guard_t rfl rfl ?_
        refine vl_det (det_notd rfl) rfl ?_
        refine vl_det (det_pick_f rfl rfl) rfl ?_
        refine vl_det (det_move rfl) rfl ?_
        refine vl_guardn rfl rfl rfl (fun h34 => ?_) (fun h34 => ?_)
        · skip
          refine vl_det (det_move rfl) rfl ?_
          refine vl_guard_t rfl rfl ?_
          refine vl_det (det_not_t rfl) rfl ?_
          refine vl_guard_t rfl rfl ?_
          refine vl_det (det_move rfl) rfl ?_
          refine vl_guard_f rfl rfl rfl rfl ?_
          refine vl_guard_f rfl rfl rfl rfl ?_
          refine vl_guard_f rfl rfl rfl rfl ?_
          refine vl_guard_f rfl rfl rfl rfl ?_
          refine vl_guard_f rfl rfl rfl rfl ?_
          refine vl_guard_t rfl rfl ?_
          refine vl_det (det_pick_f rfl rfl) rfl ?_
          refine vl_det (det_pick_f rfl rfl) rfl ?_
          exact vl_cut_end ⟨rfl, rfl, trivial⟩ (by first | rfl | exact bool_to_t (by first | exact hB.2 (.inl (by assumption)) | exact hB.2 (.inr (by assumption)) | exact fun h => (hB.1 h).elim (fun q => absurd q (by assumption)) (fun q => absurd q (by assumption))) | exact bool_to_f (by first | exact hB.2 (.inl (by assumption)) | exact hB.2 (.inr (by assumption)) | exact fun h => (hB.1 h).elim (fun q => absurd q (by assumption)) (fun q => absurd q (by assumption))) | exact bool_to (by first | exact hB.2 (.inl (by assumption)) | exact hB.2 (.inr (by assumption)) | exact fun h => (hB.1 h).elim (fun q => absurd q (by assumption)) (fun q => absurd q (by assumption))) | exact bool_to_b (by first | exact hB.2 (.inl (by assumption)) | exact hB.2 (.inr (by assumption)) | exact fun h => (hB.1 h).elim (fun q => absurd q (by assumption)) (fun q => absurd q (by assumption))))
        · skip
          refine vl_guard_f rfl rfl rfl rfl ?_
          refine vl_guard_f rfl rfl rfl rfl ?_
          refine vl_guard_u rfl rfl rfl ?_
          refine vl_guard_u rfl rfl rfl ?_
          refine vl_guard_u rfl rfl rfl ?_
          refine vl_guard_u rfl rfl rfl ?_
          refine vl_guard_u rfl rfl rfl ?_
          refine vl_guard_f rfl rfl rfl rfl ?_
          refine vl_det (det_pick_t rfl rfl) rfl ?_
          exact vl_cut_end ⟨rfl, rfl, trivial⟩ (by first | rfl | exact bool_to_t (by first | exact hB.2 (.inl (by assumption)) | exact hB.2 (.inr (by assumption)) | exact fun h => (hB.1 h).elim (fun q => absurd q (by assumption)) (fun q => absurd q (by assumption))) | exact bool_to_f (by first | exact hB.2 (.inl (by assumption)) | exact hB.2 (.inr (by assumption)) | exact fun h => (hB.1 h).elim (fun q => absurd q (by assumption)) (fun q => absurd q (by assumption))) | exact bool_to (by first | exact hB.2 (.inl (by assumption)) | exact hB.2 (.inr (by assumption)) | exact fun h => (hB.1 h).elim (fun q => absurd q (by assumption)) (fun q => absurd q (by assumption))) | exact bool_to_b (by first | exact hB.2 (.inl (by assumption)) | exact hB.2 (.inr (by assumption)) | exact fun h => (hB.1 h).elim (fun q => absurd q (by assumption)) (fun q => absurd q (by assumption))))
      · skip
        refine vl_guard_f rfl rfl rfl rfl ?_
        refine vl_guard_f rfl rfl rfl rfl ?_
        refine vl_guard_f rfl rfl rfl rfl ?_
        refine vl_det (det_pick_t rfl rfl) rfl ?_
        refine vl_det (det_move rfl) rfl ?_
        refine vl_guard_f rfl rfl rfl rfl ?_
        refine vl_guard_f rfl rfl rfl rfl ?_
        refine vl_guard_f rfl rfl rfl rfl ?_
        refine vl_guard_u rfl rfl rfl ?_
        refine vl_guard_u rfl rfl rfl ?_
        refine vl_guard_u rfl rfl rfl ?_
        refine vl_guard_u rfl rfl rfl ?_
        refine vl_guard_u rfl rfl rfl ?_
        refine vl_guard_f rfl rfl rfl rfl ?_
        refine vl_det (det_pick_t rfl rfl) rfl ?_
        exact vl_cut_end ⟨rfl, rfl, trivial⟩ (by first | rfl | exact bool_to_t (by first | exact hB.2 (.inl (by assumption)) | exact hB.2 (.inr (by assumption)) | exact fun h => (hB.1 h).elim (fun q => absurd q (by assumption)) (fun q => absurd q (by assumption))) | exact bool_to_f (by first | exact hB.2 (.inl (by assumption)) | exact hB.2 (.inr (by assumption)) | exact fun h => (hB.1 h).elim (fun q => absurd q (by assumption)) (fun q => absurd q (by assumption))) | exact bool_to (by first | exact hB.2 (.inl (by assumption)) | exact hB.2 (.inr (by assumption)) | exact fun h => (hB.1 h).elim (fun q => absurd q (by assumption)) (fun q => absurd q (by assumption))) | exact bool_to_b (by first | exact hB.2 (.inl (by assumption)) | exact hB.2 (.inr (by assumption)) | exact fun h => (hB.1 h).elim (fun q => absurd q (by assumption)) (fun q => absurd q (by assumption))))
    · skip
      refine vl_end [(0, _), (9, _), (44, _)] ⟨rfl, rfl, rfl, trivial⟩ ?_
      refine then_next ?_
      refine vc_decideU rfl (fun h44 => ?_) (fun h44 => ?_)
      · skip
        refine vc_region ?_
        refine vl_det (det_move rfl) rfl ?_
        refine vl_call co137 rfl (cfail_d 2) rfl ?_
        rintro _ _ ⟨rfl, hLL⟩
        obtain rfl := hLL.symm
        refine vl_end [(9, _)] ⟨rfl, trivial⟩ ?_
        refine then_next ?_
        refine vc_seq ?_
        refine vc_region ?_
        refine vl_det (det_move rfl) rfl ?_
        refine vl_det (det_assign rfl) rfl ?_
        refine vl_end [(6, _)] ⟨rfl, trivial⟩ ?_
        refine then_next ?_
        refine vc_ret ?_
        refine ret1 rfl rfl ?_
        exact ⟨by rw [if_neg h20]; rfl, by rw [if_neg h20, if_pos h44]⟩
      · skip
        refine vc_skip ?_
        refine then_next ?_
        refine vc_seq ?_
        refine vc_region ?_
        refine vl_det (det_move rfl) rfl ?_
        refine vl_det (det_assign rfl) rfl ?_
        refine vl_end [(6, _)] ⟨rfl, trivial⟩ ?_
        refine then_next ?_
        refine vc_ret ?_
        refine ret1 rfl rfl ?_
        exact ⟨by rw [if_neg h20]; rfl, by rw [if_neg h20, if_neg h44]⟩
theorem next2_d {was : Txt} (hw : was.length ≤ 1000) (ho : CsOk s) (hb : Bor B w0 F 1 (.slice A s.b.length c) s.b.length (bv s.b)) :
    Does Try.prog B w0 121 [.pointer (some ⟨g, 0, none⟩), .string ⟨was.toArray⟩, .bool false] (Cv g A c s :: F) (fun r L => r = .string ⟨(nxT s was false).toArray⟩ ∧ L = Cv g A c (nxC s was false) :: F) := by
  have hA : nxA s was false = s.int' was.length := rfl
  have hN : nxN s was false = s.int was.length := rfl
  have hS : nxS s was false = (s.int' was.length).text' 25 := rfl
  have hX : nxX s was false = was.take (s.int was.length) ++ (s.int' was.length).text 25 := rfl
  have hB : nxBad s was false ↔ ((s.int' was.length).text 25 = [] ∨ ¬ mayT was (nxX s was false) ∨ lcp was (nxX s was false) ≠ s.int was.length) := by unfold nxBad; rw [hN, hA]; simp
  have hC : nxC s was false = if ((s.int' was.length).text' 25).e ≠ 0 then (s.int' was.length).text' 25 else if nxBad s was false then ((s.int' was.length).text' 25).failed 2 else (s.int' was.length).text' 25 := rfl
  have hT : nxT s was false = if ((s.int' was.length).text' 25).e ≠ 0 then [] else nxX s was false := rfl
  have htl := text_le (s.int' was.length)
  have hnl := nxN_le s was false hw
  have ho2 : CsOk (s.int' was.length) := ho.int' (by omega)
  have hb2 : Bor B w0 F 1 (.slice A (s.int' was.length).b.length c) (s.int' was.length).b.length (bv (s.int' was.length).b) := by rw [Cs.int'_b]; exact hb
  rw [hC, hT]
  rw [hX] at *
  rw [hN] at hnl
  clear hC hT hS hN hA
  refine fn_walk Try.func121 48 rfl rfl rfl [(0, .pointer (some ⟨g, 0, none⟩)), (1, .string ⟨was.toArray⟩), (2, .bool false)] ⟨⟨rfl, rfl⟩, ⟨rfl, rfl⟩, ⟨rfl, rfl⟩, trivial⟩ ?_
  refine vc_seq ?_
  refine vc_region ?_
  refine vl_det (det_assign rfl) rfl ?_
  refine vl_end [(0, _), (1, _), (2, _)] ⟨rfl, rfl, rfl, trivial⟩ ?_
  refine then_next ?_
  refine vc_seq ?_
  refine vc_region ?_
  refine vl_det (det_assign rfl) rfl ?_
  refine vl_end [(0, _), (1, _), (2, _), (7, _)] ⟨rfl, rfl, rfl, rfl, trivial⟩ ?_
  refine then_next ?_
  refine vc_seq ?_
  refine vc_seq ?_
  refine vc_region ?_
  refine vl_det (det_move rfl) rfl ?_
  refine vl_det (det_not_f rfl) rfl ?_
  refine vl_end [(0, _), (1, _), (2, _), (7, _), (11, _)] ⟨rfl, rfl, rfl, rfl, rfl, trivial⟩ ?_
  refine then_next ?_
  refine vc_cond_t rfl ?_
  refine vc_region ?_
  refine vl_det (det_move rfl) rfl ?_
  refine vl_det (det_move rfl) rfl ?_
  refine vl_det (det_len_s Try.underlying9 rfl) rfl ?_
  refine vl_call co80 rfl (cint_d ho hb (most := was.length) (by omega) (by omega)) rfl ?_
  rintro _ _ ⟨rfl, hLL⟩
  obtain rfl := hLL.symm
  refine vl_det (det_assign rfl) rfl ?_
  refine vl_end [(0, _), (1, _), (2, _), (7, _)] ⟨rfl, rfl, rfl, rfl, trivial⟩ ?_
  refine then_next ?_
  refine vc_seq ?_
  refine vc_region ?_
  refine vl_det (det_move rfl) rfl ?_
  refine vl_call co136 rfl (ctext_d ho2 hb2 (most := 25) (by omega) (by omega)) rfl ?_
  rintro _ _ ⟨rfl, hLL⟩
  obtain rfl := hLL.symm
  refine vl_det (det_assign rfl) rfl ?_
  refine vl_end [(0, _), (1, _), (2, _), (7, _), (8, _)] ⟨rfl, rfl, rfl, rfl, rfl, trivial⟩ ?_
  refine then_next ?_
  refine vc_seq ?_
  refine vc_seq ?_
  refine vc_region ?_
  refine vl_det (det_move rfl) rfl ?_
  refine vl_call co81 rfl (cerr_d) rfl ?_
  rintro _ _ ⟨rfl, hLL⟩
  obtain rfl := hLL.symm
  refine vl_det (det_neq rfl rfl) rfl ?_
  refine vl_end [(0, _), (1, _), (2, _), (7, _), (8, _), (20, _)] ⟨rfl, rfl, rfl, rfl, rfl, rfl, trivial⟩ ?_
  refine then_next ?_
  refine vc_decideU rfl (fun h20 => ?_) (fun h20 => ?_)
  · skip
    refine vc_seq ?_
    refine vc_region ?_
    refine vl_det (det_assign rfl) rfl ?_
    refine vl_end [(6, _)] ⟨rfl, trivial⟩ ?_
    refine then_next ?_
    refine vc_ret ?_
    refine then_ret ?_
    refine ret1 rfl rfl ?_
    exact ⟨by rw [if_pos h20], by rw [if_pos h20]⟩
  · skip
    refine vc_skip ?_
    refine then_next ?_
    refine vc_seq ?_
    refine vc_region ?_
    refine vl_det (det_move rfl) rfl ?_
    refine vl_det (det_move rfl) rfl ?_
    refine vl_det (det_str_hi (i := s.int was.length) Try.underlying9 rfl rfl rfl (by omega)) rfl ?_
    refine vl_det (det_move rfl) rfl ?_
    refine vl_det (det_s_add (s := was.take (s.int was.length)) (r := (s.int' was.length).text 25) rfl rfl (by simp only [List.length_take]; omega)) rfl ?_
    refine vl_det (det_assign rfl) rfl ?_
    refine vl_end [(0, _), (1, _), (2, _), (7, _), (8, _), (9, _)] ⟨rfl, rfl, rfl, rfl, rfl, rfl, trivial⟩ ?_
    refine then_next ?_
    refine vc_seq ?_
    refine vc_seq ?_
    refine vc_region ?_
    refine vl_cut 19 44 [(0, _), (9, _)] (nxBad s was false) ⟨rfl, rfl, trivial⟩ ?_ ?_
    · skip
      refine vl_det (det_move rfl) rfl ?_
      refine vl_det (det_s_eql rfl rfl) rfl ?_
      refine vl_det (det_move rfl) rfl ?_
      refine vl_guardn rfl rfl rfl (fun h28 => ?_) (fun h28 => ?_)
      · skip
        refine vl_det (det_move rfl) rfl ?_
        refine vl_guard_t rfl rfl ?_
        refine vl_det (det_move rfl) rfl ?_
        refine vl_guard_t rfl rfl ?_
        refine vl_call co110 rfl (dmay_d was (was.take (s.int was.length) ++ (s.int' was.length).text 25)) rfl ?_
        rintro _ _ ⟨rfl, hLL⟩
        obtain rfl := hLL.symm
        refine vl_guard_t rfl rfl ?_
        refine vl_det (det_notd rfl) rfl ?_
        refine vl_det (det_pick_f rfl rfl) rfl ?_
        refine vl_det (det_move rfl) rfl ?_
        refine vl_guardn rfl rfl rfl (fun h34 => ?_) (fun h34 => ?_)
        · skip
          refine vl_det (det_move rfl) rfl ?_
          refine vl_guard_t rfl rfl ?_
          refine vl_det (det_not_f rfl) rfl ?_
          refine vl_guard_t rfl rfl ?_
          refine vl_det (det_move rfl) rfl ?_
          refine vl_guard_t rfl rfl ?_
          refine vl_det (det_move rfl) rfl ?_
          refine vl_guard_t rfl rfl ?_
          refine vl_det (det_move rfl) rfl ?_
          refine vl_guard_t rfl rfl ?_
          refine vl_call co113 rfl (dsame_d was (was.take (s.int was.length) ++ (s.int' was.length).text 25) (by omega)) rfl ?_
          rintro _ _ ⟨rfl, hLL⟩
          obtain rfl := hLL.symm
          refine vl_guard_t rfl rfl ?_
          refine vl_det (det_move rfl) rfl ?_
          refine vl_guard_t rfl rfl ?_
          refine vl_det (det_neq rfl rfl) rfl ?_
          refine vl_guard_t rfl rfl ?_
          refine vl_det (det_pick_t rfl rfl) rfl ?_
          refine vl_det (det_pick_f rfl rfl) rfl ?_
          exact vl_cut_end ⟨rfl, rfl, trivial⟩ (by first | rfl | exact bool_to_t (by first | exact hB.2 (.inl (by assumption)) | exact hB.2 (.inr (.inl (by assumption))) | exact ⟨fun h => hB.2 (.inr (.inr (by omega))), fun h => (hB.1 h).elim (fun q => absurd q (by assumption)) (fun q => q.elim (fun q => absurd q (by assumption)) (fun q => by omega))⟩) | exact bool_to_f (by first | exact hB.2 (.inl (by assumption)) | exact hB.2 (.inr (.inl (by assumption))) | exact ⟨fun h => hB.2 (.inr (.inr (by omega))), fun h => (hB.1 h).elim (fun q => absurd q (by assumption)) (fun q => q.elim (fun q => absurd q (by assumption)) (fun q => by omega))⟩) | exact bool_to (by first | exact hB.2 (.inl (by assumption)) | exact hB.2 (.inr (.inl (by assumption))) | exact ⟨fun h => hB.2 (.inr (.inr (by omega))), fun h => (hB.1 h).elim (fun q => absurd q (by assumption)) (fun q => q.elim (fun q => absurd q (by assumption)) (fun q => by omega))⟩) | exact bool_to_b (by first | exact hB.2 (.inl (by assumption)) | exact hB.2 (.inr (.inl (by assumption))) | exact ⟨fun h => hB.2 (.inr (.inr (by omega))), fun h => (hB.1 h).elim (fun q => absurd q (by assumption)) (fun q => q.elim (fun q => absurd q (by assumption)) (fun q => by omega))⟩))
        · skip
          refine vl_guard_f rfl rfl rfl rfl ?_
          refine vl_guard_f rfl rfl rfl rfl ?_
          refine vl_guard_u rfl rfl rfl ?_
          refine vl_guard_u rfl rfl rfl ?_
          refine vl_guard_u rfl rfl rfl ?_
          refine vl_guard_u rfl rfl rfl ?_
          refine vl_guard_u rfl rfl rfl ?_
          refine vl_guard_f rfl rfl rfl rfl ?_
          refine vl_det (det_pick_t rfl rfl) rfl ?_
          exact vl_cut_end ⟨rfl, rfl, trivial⟩ (by first | rfl | exact bool_to_t (by first | exact hB.2 (.inl (by assumption)) | exact hB.2 (.inr (.inl (by assumption))) | exact ⟨fun h => hB.2 (.inr (.inr (by omega))), fun h => (hB.1 h).elim (fun q => absurd q (by assumption)) (fun q => q.elim (fun q => absurd q (by assumption)) (fun q => by omega))⟩) | exact bool_to_f (by first | exact hB.2 (.inl (by assumption)) | exact hB.2 (.inr (.inl (by assumption))) | exact ⟨fun h => hB.2 (.inr (.inr (by omega))), fun h => (hB.1 h).elim (fun q => absurd q (by assumption)) (fun q => q.elim (fun q => absurd q (by assumption)) (fun q => by omega))⟩) | exact bool_to (by first | exact hB.2 (.inl (by assumption)) | exact hB.2 (.inr (.inl (by assumption))) | exact ⟨fun h => hB.2 (.inr (.inr (by omega))), fun h => (hB.1 h).elim (fun q => absurd q (by assumption)) (fun q => q.elim (fun q => absurd q (by assumption)) (fun q => by omega))⟩) | exact bool_to_b (by first | exact hB.2 (.inl (by assumption)) | exact hB.2 (.inr (.inl (by assumption))) | exact ⟨fun h => hB.2 (.inr (.inr (by omega))), fun h => (hB.1 h).elim (fun q => absurd q (by assumption)) (fun q => q.elim (fun q => absurd q (by assumption)) (fun q => by omega))⟩))
      · skip
        refine vl_guard_f rfl rfl rfl rfl ?_
        refine vl_guard_f rfl rfl rfl rfl ?_
        refine vl_guard_f rfl rfl rfl rfl ?_
        refine vl_det (det_pick_t rfl rfl) rfl ?_
        refine vl_det (det_move rfl) rfl ?_
        refine vl_guard_f rfl rfl rfl rfl ?_
        refine vl_guard_f rfl rfl rfl rfl ?_
        refine vl_guard_f rfl rfl rfl rfl ?_
        refine vl_guard_u rfl rfl rfl ?_
        refine vl_guard_u rfl rfl rfl ?_
        refine vl_guard_u rfl rfl rfl ?_
        refine vl_guard_u rfl rfl rfl ?_
        refine vl_guard_u rfl rfl rfl ?_
        refine vl_guard_f rfl rfl rfl rfl ?_
        refine vl_det (det_pick_t rfl rfl) rfl ?_
        exact vl_cut_end ⟨rfl, rfl, trivial⟩ (by first | rfl | exact bool_to_t (by first | exact hB.2 (.inl (by assumption)) | exact hB.2 (.inr (.inl (by assumption))) | exact ⟨fun h => hB.2 (.inr (.inr (by omega))), fun h => (hB.1 h).elim (fun q => absurd q (by assumption)) (fun q => q.elim (fun q => absurd q (by assumption)) (fun q => by omega))⟩) | exact bool_to_f (by first | exact hB.2 (.inl (by assumption)) | exact hB.2 (.inr (.inl (by assumption))) | exact ⟨fun h => hB.2 (.inr (.inr (by omega))), fun h => (hB.1 h).elim (fun q => absurd q (by assumption)) (fun q => q.elim (fun q => absurd q (by assumption)) (fun q => by omega))⟩) | exact bool_to (by first | exact hB.2 (.inl (by assumption)) | exact hB.2 (.inr (.inl (by assumption))) | exact ⟨fun h => hB.2 (.inr (.inr (by omega))), fun h => (hB.1 h).elim (fun q => absurd q (by assumption)) (fun q => q.elim (fun q => absurd q (by assumption)) (fun q => by omega))⟩) | exact bool_to_b (by first | exact hB.2 (.inl (by assumption)) | exact hB.2 (.inr (.inl (by assumption))) | exact ⟨fun h => hB.2 (.inr (.inr (by omega))), fun h => (hB.1 h).elim (fun q => absurd q (by assumption)) (fun q => q.elim (fun q => absurd q (by assumption)) (fun q => by omega))⟩))
    · skip
      refine vl_end [(0, _), (9, _), (44, _)] ⟨rfl, rfl, rfl, trivial⟩ ?_
      refine then_next ?_
      refine vc_decideU rfl (fun h44 => ?_) (fun h44 => ?_)
      · skip
        refine vc_region ?_
        refine vl_det (det_move rfl) rfl ?_
        refine vl_call co137 rfl (cfail_d 2) rfl ?_
        rintro _ _ ⟨rfl, hLL⟩
        obtain rfl := hLL.symm
        refine vl_end [(9, _)] ⟨rfl, trivial⟩ ?_
        refine then_next ?_
        refine vc_seq ?_
        refine vc_region ?_
        refine vl_det (det_move rfl) rfl ?_
        refine vl_det (det_assign rfl) rfl ?_
        refine vl_end [(6, _)] ⟨rfl, trivial⟩ ?_
        refine then_next ?_
        refine vc_ret ?_
        refine ret1 rfl rfl ?_
        exact ⟨by rw [if_neg h20], by rw [if_neg h20, if_pos h44]⟩
      · skip
        refine vc_skip ?_
        refine then_next ?_
        refine vc_seq ?_
        refine vc_region ?_
        refine vl_det (det_move rfl) rfl ?_
        refine vl_det (det_assign rfl) rfl ?_
        refine vl_end [(6, _)] ⟨rfl, trivial⟩ ?_
        refine then_next ?_
        refine vc_ret ?_
        refine ret1 rfl rfl ?_
        exact ⟨by rw [if_neg h20], by rw [if_neg h20, if_neg h44]⟩
end Go.Proofs.Ytpamjobiohbibaa
namespace Go.Proofs.Ytpamjobiohbibaa
open Go.RowKit
set_option linter.unusedVariables false
set_option maxRecDepth 20000
variable {B : Nat} {w0 : World} {F : List Ch} {A A1 A2 : Option Addr} {n c c1 c2 g : Nat} {s : Cs}
theorem next_d {was : Txt} (first : Bool) (hw : was.length ≤ 1000) (ho : CsOk s) (hb : Bor B w0 F 1 (.slice A s.b.length c) s.b.length (bv s.b)) :
    Does Try.prog B w0 121 [.pointer (some ⟨g, 0, none⟩), .string ⟨was.toArray⟩, .bool first] (Cv g A c s :: F) (fun r L => r = .string ⟨(nxT s was first).toArray⟩ ∧ L = Cv g A c (nxC s was first) :: F) := by
  cases first
  · exact next2_d hw ho hb
  · exact next1_d hw ho hb
theorem nx_ok {was : Txt} {first : Bool} (h : (nxC s was first).e = 0) : (nxS s was first).e = 0 ∧ ¬ nxBad s was first ∧ nxC s was first = nxS s was first ∧ nxT s was first = nxX s was first := by
  unfold nxC at h ⊢
  by_cases h1 : (nxS s was first).e ≠ 0
  · rw [if_pos h1] at h; exact absurd h h1
  · rw [if_neg h1] at h ⊢
    have h1' : (nxS s was first).e = 0 := by simpa using h1
    by_cases h2 : nxBad s was first
    · rw [if_pos h2] at h
      unfold Cs.failed at h
      rw [if_pos h1'] at h
      exact absurd h (by simp)
    · rw [if_neg h2]
      exact ⟨h1', h2, rfl, if_neg h1⟩
theorem nx_may {was : Txt} {first : Bool} (h : (nxC s was first).e = 0) : mayT was (nxT s was first) := by
  obtain ⟨_, h2, _, h4⟩ := nx_ok h
  rw [h4]
  exact Classical.not_not.1 fun h => h2 (.inr (.inl h))
/-- a bucket's texts behind those that there are, or the error -/
def fillF : Nat → Bool → Cs → List Txt → List Txt × Int
  | 0, _, s, out => if s.end'.e ≠ 0 then ([], s.end'.e) else (out, 0)
  | k + 1, first, s, out => if (nxC s (prvT out out.length) first).e ≠ 0 then ([], (nxC s (prvT out out.length) first).e) else fillF k false (nxC s (prvT out out.length) first) (out ++ [nxT s (prvT out out.length) first])
def Le25 (l : List Txt) : Prop := ∀ x ∈ l, x.length ≤ 25
theorem Le25.prv {l : List Txt} (h : Le25 l) (i : Nat) : (prvT l i).length ≤ 25 := by
  unfold prvT
  split
  · simp
  · rw [List.getD_eq_getElem?_getD]
    by_cases hi : i - 1 < l.length
    · rw [List.getElem?_eq_getElem hi]; exact h _ (List.getElem_mem _)
    · rw [List.getElem?_eq_none (by omega)]; simp
theorem Le25.snoc {l : List Txt} (h : Le25 l) {x : Txt} (hx : x.length ≤ 25) : Le25 (l ++ [x]) := by
  intro y hy
  simp only [List.mem_append, List.mem_singleton] at hy
  rcases hy with hy | rfl
  · exact h y hy
  · exact hx
abbrev Dd (g : Nat) (sz : Int) (A1 : Option Addr) (c1 : Nat) (A2 : Option Addr) (c2 : Nat) (o h : List Txt) (F : List Ch) : List Ch :=
  .blk g 125 [.slice A1 o.length c1, .int .i64 sz, .slice A2 h.length c2] :: .own 9 1 A1 o.length c1 (strs o) :: .own 9 1 A2 h.length c2 (strs h) :: F
theorem getD_app {l r : List Txt} {i : Nat} (h : i < l.length) : (l ++ r).getD i [] = l.getD i [] := by simp [List.getD, List.getElem?_append_left h]
theorem fill_d {b : List UInt8} {m : Nat} {sz : Int} {o0 h0 : List Txt} (hm : 1 ≤ m) (hm2 : m ≤ 64) (hb : Bor B w0 (Dd g sz A1 c1 A2 c2 o0 h0 F) 1 (.slice A b.length c) b.length (bv b)) (hbl : b.length ≤ 1099511627776) (h25 : Le25 o0) (hol : o0.length ≤ 2000000) (hhl : h0.length ≤ 2000000) :
    Does Try.prog B w0 83 [.pointer (some ⟨g, 0, none⟩), .slice A b.length c, .int .i64 m] (Dd g sz A1 c1 A2 c2 o0 h0 F) (fun r L => ∃ P1 p1 P2 p2 o h, r = .int .i64 (fillF m true ⟨b, 0, 0⟩ o0).2 ∧ L = Dd g sz P1 p1 P2 p2 o h F ∧ ((fillF m true ⟨b, 0, 0⟩ o0).2 = 0 → o = (fillF m true ⟨b, 0, 0⟩ o0).1 ∧ h = h0 ++ [o.getD o0.length []] ∧ Le25 o ∧ o.length = o0.length + m)) := by
  obtain ⟨G, hG⟩ : ∃ G, G = fillF m true ⟨b, 0, 0⟩ o0 := ⟨_, rfl⟩
  rw [← hG]
  refine fn_walk Try.func83 76 rfl rfl rfl [(0, .pointer (some ⟨g, 0, none⟩)), (1, .slice A b.length c), (2, .int .i64 m)] ⟨⟨rfl, rfl⟩, ⟨rfl, rfl⟩, ⟨rfl, rfl⟩, trivial⟩ ?_
  refine vc_seq ?_
  refine vc_region ?_
  refine vl_det (det_assign rfl) rfl ?_
  refine vl_end [(0, _), (1, _), (2, _)] ⟨rfl, rfl, rfl, trivial⟩ ?_
  refine then_next ?_
  refine vc_seq ?_
  refine vc_region ?_
  refine vl_det (det_move rfl) rfl ?_
  refine vl_call co79 rfl (cnew_d hb hbl) rfl ?_
  rintro _ _ ⟨g13, A13, c13, rfl, hLL⟩
  obtain rfl := hLL.symm
  refine vl_det (det_assign rfl) rfl ?_
  refine vl_end [(0, _), (2, _), (7, _)] ⟨rfl, rfl, rfl, trivial⟩ ?_
  refine then_next ?_
  refine vc_seq ?_
  refine vc_seq ?_
  refine vc_region ?_
  refine vl_det (det_move rfl) rfl ?_
  refine vl_det (det_move rfl) rfl ?_
  refine vl_end [(0, _), (7, _), (14, _), (15, _)] ⟨rfl, rfl, rfl, rfl, trivial⟩ ?_
  refine then_next ?_
  refine vc_block ?_
  refine vc_loopJ (fun zf zL zm => ∃ (i : Nat) (s : Cs) (o h : List Txt) (P1 : Option Addr) (p1 : Nat) (P2 : Option Addr) (p2 : Nat), (i ≤ m ∧ CsOk s ∧ o.length = o0.length + i ∧ Le25 o ∧ (i = 0 → h = h0) ∧ (0 < i → h = h0 ++ [o.getD o0.length []]) ∧ fillF (m - i) (decide ((i : Int) = 0)) s o = G) ∧ m - i = zm ∧ Sub zf [(0, .pointer (some ⟨g, 0, none⟩)), (7, .pointer (some ⟨g13, 0, none⟩)), (14, .int .i64 m), (15, .int .i64 i)] ∧ Wk zL (Cv g13 A13 c13 s :: .own 5 1 A13 s.b.length c13 (bv s.b) :: Dd g sz P1 p1 P2 p2 o h F)) _ ⟨0, ⟨b, 0, 0⟩, o0, h0, A1, c1, A2, c2, ⟨Nat.zero_le _, ⟨Nat.zero_le _, hbl⟩, rfl, h25, fun _ => rfl, fun h => absurd h (by omega), hG.symm⟩, rfl, ⟨(by first | rfl | exact int_to (by omega) | exact sl_to (by omega)), (by first | rfl | exact int_to (by omega) | exact sl_to (by omega)), (by first | rfl | exact int_to (by omega) | exact sl_to (by omega)), (by first | rfl | exact int_to (by omega) | exact sl_to (by omega)), trivial⟩, .refl _⟩ ?_
  rintro _ _ _ ⟨i, s, o, h, P1, p1, P2, p2, ⟨hi, ho, hoo, ho25, hh0, hh1, hF⟩, rfl, hs, hp⟩
  refine vc_weaken _ hs (vc_wk hp ?_)
  clear hs hp
  refine vc_seq ?_
  refine vc_region ?_
  refine vl_det (det_lss rfl rfl) rfl ?_
  refine vl_end [(0, _), (7, _), (14, _), (15, _), (16, _)] ⟨rfl, rfl, rfl, rfl, rfl, trivial⟩ ?_
  refine then_next ?_
  refine vc_seq ?_
  refine vc_decideU rfl (fun h16 => ?_) (fun h16 => ?_)
  · skip
    obtain ⟨k, hk⟩ : ∃ k, m - i = k + 1 := ⟨m - i - 1, by omega⟩
    rw [hk, fillF] at hF
    have hpl := ho25.prv o.length
    have hhl2 : h.length ≤ 2000001 := by
      by_cases h0i : i = 0
      · rw [hh0 h0i]; omega
      · rw [hh1 (by omega)]; simp; omega
    refine vc_skip ?_
    refine then_next ?_
    refine vc_seq ?_
    refine vc_block ?_
    refine vc_seq ?_
    refine vc_region ?_
    refine vl_det (det_move rfl) rfl ?_
    refine vl_det (det_assign rfl) rfl ?_
    refine vl_end [(0, _), (7, _), (8, _), (14, _), (15, _)] ⟨rfl, rfl, rfl, rfl, rfl, trivial⟩ ?_
    refine then_next ?_
    refine vc_seq ?_
    refine vc_region ?_
    refine vl_det (det_assign rfl) rfl ?_
    refine vl_end [(0, _), (7, _), (8, _), (9, _), (14, _), (15, _)] ⟨rfl, rfl, rfl, rfl, rfl, rfl, trivial⟩ ?_
    refine then_next ?_
    refine vc_seqJ (fun zf zL => Sub zf [(0, .pointer (some ⟨g, 0, none⟩)), (7, .pointer (some ⟨g13, 0, none⟩)), (8, .int .i64 i), (9, .string ⟨(prvT o o.length).toArray⟩), (14, .int .i64 m), (15, .int .i64 i)] ∧ Wk zL (Cv g13 A13 c13 s :: .own 5 1 A13 s.b.length c13 (bv s.b) :: Dd g sz P1 p1 P2 p2 o h F)) ?_ ?_
    · skip
      refine vc_seq ?_
      refine vc_region ?_
      refine vl_det (det_move rfl) rfl ?_
      refine vl_det (det_nilCheck rfl) rfl ?_
      refine vl_det (det_fieldAddr_ Try.underlying125 rfl (by kernel_rfl) rfl rfl) rfl ?_
      refine vl_det (det_fieldAddr_ Try.underlying123 rfl (by kernel_rfl) rfl rfl) rfl ?_
      refine vl_det (det_load_blk (by kernel_rfl) rfl (by repeat (first | exact .hd | apply Sel.tl)) rfl) rfl ?_
      refine vl_det (det_len_sl Try.underlying26 rfl) rfl ?_
      refine vl_det (det_gtr rfl rfl) rfl ?_
      refine vl_end [(0, _), (7, _), (8, _), (9, _), (14, _), (15, _), (24, _)] ⟨rfl, rfl, rfl, rfl, rfl, rfl, rfl, trivial⟩ ?_
      refine then_next ?_
      refine vc_decideU rfl (fun h24 => ?_) (fun h24 => ?_)
      · skip
        have hlst : o.getD (o.length - 1) [] = prvT o o.length := (if_neg (by omega)).symm
        refine vq_region (by kernel_rfl) (by kernel_rfl) ?_
        refine vq_det (det_move rfl) rfl ?_
        refine vq_det (det_nilCheck rfl) rfl ?_
        refine vq_det (det_fieldAddr_ Try.underlying125 rfl (by kernel_rfl) rfl rfl) rfl ?_
        refine vq_det (det_fieldAddr_ Try.underlying123 rfl (by kernel_rfl) rfl rfl) rfl ?_
        refine vq_det (det_load_blk (by kernel_rfl) rfl (by repeat (first | exact .hd | apply Sel.tl)) rfl) rfl ?_
        refine vq_det (det_move rfl) rfl ?_
        refine vq_det (det_nilCheck rfl) rfl ?_
        refine vq_det (det_fieldAddr_ Try.underlying125 rfl (by kernel_rfl) rfl rfl) rfl ?_
        refine vq_det (det_fieldAddr_ Try.underlying123 rfl (by kernel_rfl) rfl rfl) rfl ?_
        refine vq_det (det_load_blk (by kernel_rfl) rfl (by repeat (first | exact .hd | apply Sel.tl)) rfl) rfl ?_
        refine vq_det (det_len_sl Try.underlying26 rfl) rfl ?_
        refine vq_det (det_sub rfl rfl (w_i64 (by omega) (by omega))) rfl ?_
        refine vq_det (det_indexAddr (i := o.length - 1) (size := 1) Try.underlying26 (by kernel_rfl) rfl rfl (by omega) (by omega) (by first | (exact Bor.own (by repeat (first | exact List.Mem.head _ | apply List.Mem.tail))) | (repeat (first | assumption | apply Bor.cons)))) rfl ?_
        refine vq_det (det_load_str (b := o) (j := o.length - 1) (by kernel_rfl) rfl (by first | (exact Bor.own (by repeat (first | exact List.Mem.head _ | apply List.Mem.tail))) | (repeat (first | assumption | apply Bor.cons))) (by omega)) rfl ?_
        rw [hlst]
        refine vq_det (det_assign rfl) rfl ?_
        refine vq_end [(0, _), (7, _), (8, _), (9, _), (14, _), (15, _)] ⟨rfl, rfl, rfl, rfl, rfl, rfl, trivial⟩ ?_
        exact in_join ⟨⟨(by first | rfl | exact int_to (by omega) | exact sl_to (by omega)), (by first | rfl | exact int_to (by omega) | exact sl_to (by omega)), (by first | rfl | exact int_to (by omega) | exact sl_to (by omega)), (by first | rfl | exact int_to (by omega) | exact sl_to (by omega)), (by first | rfl | exact int_to (by omega) | exact sl_to (by omega)), (by first | rfl | exact int_to (by omega) | exact sl_to (by omega)), trivial⟩, .refl _⟩
      · skip
        have hlst : prvT o o.length = [] := if_pos (by omega)
        refine vc_skip ?_
        rw [hlst]
        exact in_join ⟨⟨(by first | rfl | exact int_to (by omega) | exact sl_to (by omega)), (by first | rfl | exact int_to (by omega) | exact sl_to (by omega)), (by first | rfl | exact int_to (by omega) | exact sl_to (by omega)), (by first | rfl | exact int_to (by omega) | exact sl_to (by omega)), (by first | rfl | exact int_to (by omega) | exact sl_to (by omega)), (by first | rfl | exact int_to (by omega) | exact sl_to (by omega)), trivial⟩, .refl _⟩
    · rintro _ _ ⟨hs, hp⟩
      refine vc_weaken _ hs (vc_wk hp ?_)
      clear hs hp
      refine vc_seq ?_
      refine vc_region ?_
      refine vl_det (det_move rfl) rfl ?_
      refine vl_det (det_move rfl) rfl ?_
      refine vl_det (det_move rfl) rfl ?_
      refine vl_det (det_eql rfl rfl) rfl ?_
      refine vl_call co121 rfl (next_d (decide ((i : Int) = 0)) (was := prvT o o.length) (by omega) ho (by first | (exact Bor.own (by repeat (first | exact List.Mem.head _ | apply List.Mem.tail))) | (repeat (first | assumption | apply Bor.cons)))) rfl ?_
      rintro _ _ ⟨rfl, hLL⟩
      obtain rfl := hLL.symm
      refine vl_det (det_assign rfl) rfl ?_
      refine vl_end [(0, _), (7, _), (8, _), (10, _), (14, _), (15, _)] ⟨rfl, rfl, rfl, rfl, rfl, rfl, trivial⟩ ?_
      refine then_next ?_
      refine vc_seq ?_
      refine vc_seq ?_
      refine vc_region ?_
      refine vl_det (det_move rfl) rfl ?_
      refine vl_call co81 rfl (cerr_d) rfl ?_
      rintro _ _ ⟨rfl, hLL⟩
      obtain rfl := hLL.symm
      refine vl_det (det_assign rfl) rfl ?_
      refine vl_end [(0, _), (7, _), (8, _), (10, _), (11, _), (14, _), (15, _)] ⟨rfl, rfl, rfl, rfl, rfl, rfl, rfl, trivial⟩ ?_
      refine then_next ?_
      refine vc_seq ?_
      refine vc_region ?_
      refine vl_det (det_move rfl) rfl ?_
      refine vl_det (det_neq rfl rfl) rfl ?_
      refine vl_end [(0, _), (7, _), (8, _), (10, _), (11, _), (14, _), (15, _), (47, _)] ⟨rfl, rfl, rfl, rfl, rfl, rfl, rfl, rfl, trivial⟩ ?_
      refine then_next ?_
      refine vc_decideU rfl (fun h47 => ?_) (fun h47 => ?_)
      · skip
        rw [if_pos h47] at hF
        refine vc_seq ?_
        refine vc_region ?_
        refine vl_det (det_move rfl) rfl ?_
        refine vl_det (det_assign rfl) rfl ?_
        refine vl_end [(6, _)] ⟨rfl, trivial⟩ ?_
        refine then_next ?_
        refine vc_ret ?_
        refine then_ret ?_
        refine in_ret ?_
        refine then_ret ?_
        refine loop_ret ?_
        refine in_ret ?_
        refine then_ret ?_
        refine ret_wk (L' := Dd g sz P1 p1 P2 p2 o h F) (.skip (.skip (.refl _))) ?_
        refine ret1 rfl rfl ?_
        exact ⟨P1, p1, P2, p2, o, h, by rw [← hF], rfl, fun h => by rw [← hF] at h; exact absurd h h47⟩
      · skip
        rw [if_neg h47] at hF
        have h0 : (nxC s (prvT o o.length) (decide ((i : Int) = 0))).e = 0 := by omega
        have hmay := nx_may h0
        have hbb := nxC_b s (prvT o o.length) (decide ((i : Int) = 0))
        have hoC : CsOk (nxC s (prvT o o.length) (decide ((i : Int) = 0))) := ho.nxC (by omega)
        have hel : o.length + 1 = (o ++ [nxT s (prvT o o.length) (decide ((i : Int) = 0))]).length := by simp
        refine vc_skip ?_
        refine then_next ?_
        refine vc_seq ?_
        refine vc_region ?_
        refine vl_det (det_move rfl) rfl ?_
        refine vl_det (det_move rfl) rfl ?_
        refine vl_det (det_nilCheck rfl) rfl ?_
        refine vl_det (det_fieldAddr_ Try.underlying125 rfl (by kernel_rfl) rfl rfl) rfl ?_
        refine vl_det (det_fieldAddr_ Try.underlying123 rfl (by kernel_rfl) rfl rfl) rfl ?_
        refine vl_det (det_load_blk (by kernel_rfl) rfl (by repeat (first | exact .hd | apply Sel.tl)) rfl) rfl ?_
        refine vl_det (det_move rfl) rfl ?_
        refine vl_push slT26 rfl rfl rfl rfl rfl (fun _ => rfl) (by repeat (first | exact .hd | apply Sel.tl)) (by omega) (by omega) ?_
        intro _ A57 c57
        refine vl_det (det_nilCheck rfl) rfl ?_
        refine vl_det (det_fieldAddr_ Try.underlying125 rfl (by kernel_rfl) rfl rfl) rfl ?_
        refine vl_det (det_fieldAddr_ Try.underlying123 rfl (by kernel_rfl) rfl rfl) rfl ?_
        refine vl_eff0 (eff_store (by kernel_rfl) rfl rfl rfl (by repeat (first | exact .hd | apply Sel.tl)) (by simp)) ?_
        rintro _ _ rfl
        refine vl_end [(0, _), (7, _), (8, _), (10, _), (14, _), (15, _)] ⟨rfl, rfl, rfl, rfl, rfl, rfl, trivial⟩ ?_
        refine then_next ?_
        refine vc_seq ?_
        refine vc_region ?_
        refine vl_det (det_move rfl) rfl ?_
        refine vl_det (det_eql rfl rfl) rfl ?_
        refine vl_end [(0, _), (7, _), (10, _), (14, _), (15, _), (62, _)] ⟨rfl, rfl, rfl, rfl, rfl, rfl, trivial⟩ ?_
        refine then_next ?_
        refine vc_decideU rfl (fun h62 => ?_) (fun h62 => ?_)
        · skip
          refine vc_region ?_
          refine vl_det (det_move rfl) rfl ?_
          refine vl_det (det_move rfl) rfl ?_
          refine vl_det (det_nilCheck rfl) rfl ?_
          refine vl_det (det_fieldAddr_ Try.underlying125 rfl (by kernel_rfl) rfl rfl) rfl ?_
          refine vl_det (det_load_blk (by kernel_rfl) rfl (by repeat (first | exact .hd | apply Sel.tl)) rfl) rfl ?_
          refine vl_det (det_move rfl) rfl ?_
          refine vl_push slT26 rfl rfl rfl rfl rfl (fun _ => rfl) (by repeat (first | exact .hd | apply Sel.tl)) (by omega) (by omega) ?_
          intro _ A70 c70
          refine vl_det (det_nilCheck rfl) rfl ?_
          refine vl_det (det_fieldAddr_ Try.underlying125 rfl (by kernel_rfl) rfl rfl) rfl ?_
          refine vl_eff0 (eff_store (by kernel_rfl) rfl rfl rfl (by repeat (first | exact .hd | apply Sel.tl)) (by simp)) ?_
          rintro _ _ rfl
          refine vl_end [(0, _), (7, _), (14, _), (15, _)] ⟨rfl, rfl, rfl, rfl, trivial⟩ ?_
          refine in_normal ?_
          refine then_next ?_
          refine vc_region ?_
          refine vl_det (det_add rfl rfl (w_i64 (by omega) (by omega))) rfl ?_
          refine vl_det (det_move rfl) rfl ?_
          refine vl_end [(0, _), (7, _), (14, _), (15, _)] ⟨rfl, rfl, rfl, rfl, trivial⟩ ?_
          have hel2 : h.length + 1 = (h ++ [nxT s (prvT o o.length) (decide ((i : Int) = 0))]).length := by simp
          refine in_loop_ ⟨_, by omega, i + 1, nxC s (prvT o o.length) (decide ((i : Int) = 0)), o ++ [nxT s (prvT o o.length) (decide ((i : Int) = 0))], h ++ [nxT s (prvT o o.length) (decide ((i : Int) = 0))], A57, c57, A70, c70, ⟨by omega, hoC, by simp; omega, ho25.snoc hmay.2.1, fun h => absurd h (by omega), fun _ => by rw [hh0 (by omega)]; simp [hoo, show i = 0 by omega], by rw [show m - (i + 1) = k by omega, decide_eq_false (show ¬ ((i + 1 : Nat) : Int) = 0 by omega)]; exact hF⟩, rfl, ⟨(by first | rfl | exact int_to (by omega) | exact sl_to (by omega)), (by first | rfl | exact int_to (by omega) | exact sl_to (by omega)), (by first | rfl | exact int_to (by omega) | exact sl_to (by omega)), (by first | rfl | exact int_to (by omega) | exact sl_to (by omega)), trivial⟩, .cons (wk_own (by rw [hbb]) (by rw [hbb]) (wk_blk (by rw [hel, hel2]; rfl) (wk_own hel (by simp [strs]) (wk_own hel2 (by simp [strs]) (.refl _)))))⟩
        · skip
          refine vc_skip ?_
          refine in_normal ?_
          refine then_next ?_
          refine vc_region ?_
          refine vl_det (det_add rfl rfl (w_i64 (by omega) (by omega))) rfl ?_
          refine vl_det (det_move rfl) rfl ?_
          refine vl_end [(0, _), (7, _), (14, _), (15, _)] ⟨rfl, rfl, rfl, rfl, trivial⟩ ?_
          refine in_loop_ ⟨_, by omega, i + 1, nxC s (prvT o o.length) (decide ((i : Int) = 0)), o ++ [nxT s (prvT o o.length) (decide ((i : Int) = 0))], h, A57, c57, P2, p2, ⟨by omega, hoC, by simp; omega, ho25.snoc hmay.2.1, fun h => absurd h (by omega), fun _ => by rw [hh1 (by omega), getD_app (by omega)], by rw [show m - (i + 1) = k by omega, decide_eq_false (show ¬ ((i + 1 : Nat) : Int) = 0 by omega)]; exact hF⟩, rfl, ⟨(by first | rfl | exact int_to (by omega) | exact sl_to (by omega)), (by first | rfl | exact int_to (by omega) | exact sl_to (by omega)), (by first | rfl | exact int_to (by omega) | exact sl_to (by omega)), (by first | rfl | exact int_to (by omega) | exact sl_to (by omega)), trivial⟩, .cons (wk_own (by rw [hbb]) (by rw [hbb]) (wk_blk (by rw [hel]; rfl) (wk_own hel (by simp [strs]) (.refl _))))⟩
  · skip
    rw [show m - i = 0 by omega, fillF] at hF
    refine vc_exit ?_
    refine then_exit ?_
    refine loop_exit ?_
    refine in_eq ?_
    refine then_next ?_
    refine vc_seq ?_
    refine vc_region ?_
    refine vl_det (det_move rfl) rfl ?_
    refine vl_call co122 rfl (cend_d ho (by first | (exact Bor.own (by repeat (first | exact List.Mem.head _ | apply List.Mem.tail))) | (repeat (first | assumption | apply Bor.cons)))) rfl ?_
    rintro _ _ ⟨rfl, hLL⟩
    obtain rfl := hLL.symm
    refine vl_det (det_assign rfl) rfl ?_
    refine vl_end [(6, _)] ⟨rfl, trivial⟩ ?_
    refine then_next ?_
    refine vc_ret ?_
    refine ret_wk (L' := Dd g sz P1 p1 P2 p2 o h F) (.skip (.skip (.refl _))) ?_
    refine ret1 rfl rfl ?_
    have hG2 : G.2 = s.end'.e := by
      rw [← hF]; split
      · rfl
      · rename_i q; simpa using (Classical.not_not.1 q).symm
    refine ⟨P1, p1, P2, p2, o, h, by rw [hG2], rfl, fun q => ?_⟩
    rw [hG2] at q
    rw [if_neg (by simpa using q)] at hF
    exact ⟨by rw [← hF], hh1 (by omega), ho25, by omega⟩
end Go.Proofs.Ytpamjobiohbibaa
namespace Go.Proofs.Ytpamjobiohbibaa
open Go.RowKit
set_option linter.unusedVariables false
set_option maxRecDepth 20000
variable {B : Nat} {w0 : World} {F : List Ch} {A A1 A2 : Option Addr} {n c c1 c2 g : Nat} {s : Cs}
/-- the buckets' sizes: so many are asked for -/
def sizF : Nat → Cs → List Nat → Cs × List Nat
  | 0, s, out => (s, out)
  | k + 1, s, out => if s.e ≠ 0 then (s, out) else sizF k (s.int' 2000) (out ++ [s.int 2000])
/-- the buckets: texts, cursor, error -/
def bodyF (sz n : Nat) : List Nat → Cs → List Txt → List Txt × Cs × Int
  | [], s, out => if s.e ≠ 0 then ([], s, s.e) else (out, s, 0)
  | k :: r, s, out =>
    if (s.take' k).e ≠ 0 then ([], s, (s.take' k).e)
    else if (fillF (min sz (n - out.length)) true ⟨s.take k, 0, 0⟩ out).2 ≠ 0 then ([], s, (fillF (min sz (n - out.length)) true ⟨s.take k, 0, 0⟩ out).2)
    else bodyF sz n r (s.take' k) (fillF (min sz (n - out.length)) true ⟨s.take k, 0, 0⟩ out).1
def dictN (b : List UInt8) : Nat := Cs.int ⟨b, 0, 0⟩ 1048576
def dictS (sz : Nat) (b : List UInt8) : Cs × List Nat := sizF (chN sz (dictN b)) (Cs.int' ⟨b, 0, 0⟩ 1048576) []
def dictF (sz : Nat) (b : List UInt8) : List Txt × Cs × Int := bodyF sz (dictN b) (dictS sz b).2 (dictS sz b).1 []
/-- the dictionary that bytes begin with: texts, bytes taken, error -/
def dictR (size : Int) (b : List UInt8) : List Txt × Nat × Int :=
  if size < 1 ∨ 64 < size then ([], 0, 13)
  else if (dictF size.toNat b).2.2 ≠ 0 then ([], 0, (dictF size.toNat b).2.2) else ((dictF size.toNat b).1, (dictF size.toNat b).2.1.at_, 0)
theorem dictR_bad {size : Int} {b : List UInt8} (h : size < 1 ∨ 64 < size) : dictR size b = ([], 0, 13) := if_pos h
theorem dictR_err {sz : Nat} {b : List UInt8} (h : ¬ ((sz : Int) < 1 ∨ 64 < (sz : Int))) (he : (dictF sz b).2.2 ≠ 0) : dictR sz b = ([], 0, (dictF sz b).2.2) := by unfold dictR; rw [if_neg h, Int.toNat_natCast, if_pos he]
theorem dictR_ok {sz : Nat} {b : List UInt8} (h : ¬ ((sz : Int) < 1 ∨ 64 < (sz : Int))) (he : (dictF sz b).2.2 = 0) : dictR sz b = ((dictF sz b).1, (dictF sz b).2.1.at_, 0) := by unfold dictR; rw [if_neg h, Int.toNat_natCast, if_neg (by simpa using he)]
theorem Cs.int_le (s : Cs) {m : Int} (h0 : 0 ≤ m) (hm : m ≤ 9223372036854775807) : (s.int m : Int) ≤ m := by
  unfold Cs.int; split
  · simpa using h0
  · by_cases h : (limS s.rest m).2.2 = 0
    · exact (limS_facts s.rest m hm).2.2.2 h
    · rw [(limS_err h).1]; simpa using h0
theorem Cs.take'_b (s : Cs) (m : Int) : (s.take' m).b = s.b := Cs.moved_b s _ _
theorem Cs.moved_e0' {s : Cs} {k : Nat} {er : Int} (h : (s.moved k er).e = 0) : s.e = 0 := by
  unfold Cs.moved at h
  split at h
  · exact h
  · split at h
    · rename_i h1 h2; exact absurd h h2
    · exact h
theorem fillF_app : ∀ (m : Nat) (f : Bool) (s : Cs) (o : List Txt), (fillF m f s o).2 = 0 → ∃ t, (fillF m f s o).1 = o ++ t ∧ t.length = m
  | 0, f, s, o, h => by
    unfold fillF at h ⊢
    split at h
    · rename_i q; exact absurd h q
    · rename_i q; rw [if_neg q]; exact ⟨[], by simp⟩
  | k + 1, f, s, o, h => by
    unfold fillF at h ⊢
    split at h
    · rename_i q; exact absurd h q
    · rename_i q
      rw [if_neg q]
      obtain ⟨t, h1, h2⟩ := fillF_app k _ _ _ h
      exact ⟨nxT s (prvT o o.length) f :: t, by rw [h1]; simp, by simp [h2]⟩
/-- the texts that the buckets begin with -/
def hdS (sz : Nat) (o : List Txt) : List Txt := (List.range (chN sz o.length)).map fun j => o.getD (j * sz) []
theorem chN_ge {sz n : Nat} (h : 1 ≤ sz) : n ≤ chN sz n * sz := by
  rcases Nat.lt_or_ge (chN sz n * sz) n with h1 | h1
  · exact absurd ((chN_lt h).2 h1) (by omega)
  · exact h1
theorem heads_step {i z sz N : Nat} {o t : List Txt} (hz : z = i * sz) (hs1 : 1 ≤ sz) (ho : o.length = min z N) (hzN : z < N) : (List.range i).map (fun j => o.getD (j * sz) []) ++ [(o ++ t).getD o.length []] = (List.range (i + 1)).map (fun j => (o ++ t).getD (j * sz) []) := by
  rw [List.range_succ, List.map_append, List.map_singleton]
  congr 1
  · apply List.map_congr_left
    intro j hj
    have hji := List.mem_range.1 hj
    have : (j + 1) * sz ≤ i * sz := Nat.mul_le_mul_right sz (by omega)
    rw [Nat.add_mul, Nat.one_mul] at this
    exact (getD_app (by omega)).symm
  · rw [show i * sz = o.length by omega]
theorem drop_getT {l : List Nat} {i : Nat} (h : i < l.length) : l.drop i = l.getD i 0 :: l.drop (i + 1) := by
  rw [List.drop_eq_getElem_cons h]; simp [List.getD, List.getElem?_eq_getElem h]
def DictQ (size : Int) (b : List UInt8) (F : List Ch) (r : Value) (L : List Ch) : Prop :=
  ((dictR size b).2.2 ≠ 0 ∧ r = .tuple #[.pointer none, .int .i64 0, .int .i64 (dictR size b).2.2] ∧ L = F) ∨
  ((dictR size b).2.2 = 0 ∧ 1 ≤ size ∧ size ≤ 64 ∧ Le25 (dictR size b).1 ∧ (dictR size b).1.length ≤ 1048576 ∧ ∃ g A1 c1 A2 c2, r = .tuple #[.pointer (some ⟨g, 0, none⟩), .int .i64 (dictR size b).2.1, .int .i64 0] ∧ L = Dd g size A1 c1 A2 c2 (dictR size b).1 (hdS size.toNat (dictR size b).1) F)
theorem dread_bad {size : Int} {b : List UInt8} (hE : size < 1 ∨ 64 < size) :
    Does Try.prog B w0 48 [.int .i64 size, .slice A n c] F (DictQ size b F) := by
  refine fn_walk Try.func48 84 rfl rfl rfl [(0, .int .i64 size), (1, .slice A n c)] ⟨⟨rfl, rfl⟩, ⟨rfl, rfl⟩, trivial⟩ ?_
  refine vc_seq ?_
  refine vc_region ?_
  refine vl_det (det_assign rfl) rfl ?_
  refine vl_det (det_assign rfl) rfl ?_
  refine vl_det (det_assign rfl) rfl ?_
  refine vl_end [(0, _), (1, _)] ⟨rfl, rfl, trivial⟩ ?_
  refine then_next ?_
  refine vc_seq ?_
  refine vc_seq ?_
  refine vc_region ?_
  refine vl_cut 6 23 [(0, _), (1, _)] (size < 1 ∨ 64 < size) ⟨rfl, rfl, trivial⟩ ?_ ?_
  · skip
    refine vl_det (det_move rfl) rfl ?_
    refine vl_det (det_lss rfl rfl) rfl ?_
    refine vl_det (det_move rfl) rfl ?_
    refine vl_guardn rfl rfl rfl (fun h20 => ?_) (fun h20 => ?_)
    · skip
      refine vl_det (det_move rfl) rfl ?_
      refine vl_guard_t rfl rfl ?_
      refine vl_det (det_gtr rfl rfl) rfl ?_
      refine vl_det (det_pick_f rfl rfl) rfl ?_
      exact vl_cut_end ⟨rfl, rfl, trivial⟩ (by first | rfl | exact bool_to_t (by first | omega | simp_all) | exact bool_to_f (by first | omega | simp_all) | exact bool_to (by first | omega | simp_all) | exact bool_to_b (by first | omega | simp_all))
    · skip
      refine vl_guard_f rfl rfl rfl rfl ?_
      refine vl_det (det_pick_t rfl rfl) rfl ?_
      exact vl_cut_end ⟨rfl, rfl, trivial⟩ (by first | rfl | exact bool_to_t (by first | omega | simp_all) | exact bool_to_f (by first | omega | simp_all) | exact bool_to (by first | omega | simp_all) | exact bool_to_b (by first | omega | simp_all))
  · skip
    refine vl_end [(0, _), (1, _), (23, _)] ⟨rfl, rfl, rfl, trivial⟩ ?_
    refine then_next ?_
    refine vc_decideU rfl (fun h23 => ?_) (fun h23 => ?_)
    · skip
      refine vc_seq ?_
      refine vc_region ?_
      refine vl_det (det_assign rfl) rfl ?_
      refine vl_det (det_assign rfl) rfl ?_
      refine vl_det (det_assign rfl) rfl ?_
      refine vl_end [(4, _), (5, _), (6, _)] ⟨rfl, rfl, rfl, trivial⟩ ?_
      refine then_next ?_
      refine vc_ret ?_
      refine then_ret ?_
      refine ret3_ rfl rfl rfl rfl ?_
      exact .inl ⟨by rw [dictR_bad hE]; decide, by rw [dictR_bad hE], rfl⟩
    · skip
      exfalso; exact h23 hE
theorem dread_ok {sz : Nat} {b : List UInt8} (hs1 : 1 ≤ sz) (hs2 : sz ≤ 64) (hb : Bor B w0 F 1 (.slice A b.length c) b.length (bv b)) (hbl : b.length ≤ 1000000000) :
    Does Try.prog B w0 48 [.int .i64 sz, .slice A b.length c] F (DictQ sz b F) := by
  have hR1 := @dictR_err sz b (by omega)
  have hR2 := @dictR_ok sz b (by omega)
  have hN1 := Cs.int_le ⟨b, 0, 0⟩ (m := 1048576) (by omega) (by omega)
  have hDS : dictS sz b = sizF (chN sz (dictN b)) (Cs.int' ⟨b, 0, 0⟩ 1048576) [] := rfl
  have hDF : dictF sz b = bodyF sz (dictN b) (dictS sz b).2 (dictS sz b).1 [] := rfl
  have hNe : Cs.int ⟨b, 0, 0⟩ 1048576 = dictN b := rfl
  rw [hNe] at hN1
  have hdN : ∀ l : List Txt, dictF sz b = dictF sz b := fun _ => rfl
  obtain ⟨N, hN⟩ : ∃ N, N = dictN b := ⟨_, rfl⟩
  rw [← hN] at hN1 hDS hDF hNe
  have hcN : chN sz N ≤ 1048639 := by
    unfold chN
    exact Nat.le_trans (Nat.div_le_self _ _) (by omega)
  have hcz : chN sz N * sz ≤ 1048639 * 64 := Nat.mul_le_mul hcN hs2
  have ho1 : CsOk (Cs.int' ⟨b, 0, 0⟩ 1048576) := CsOk.int' ⟨Nat.zero_le _, by simp only; omega⟩ (by omega)
  refine fn_walk Try.func48 84 rfl rfl rfl [(0, .int .i64 sz), (1, .slice A b.length c)] ⟨⟨rfl, rfl⟩, ⟨rfl, rfl⟩, trivial⟩ ?_
  refine vc_seq ?_
  refine vc_region ?_
  refine vl_det (det_assign rfl) rfl ?_
  refine vl_det (det_assign rfl) rfl ?_
  refine vl_det (det_assign rfl) rfl ?_
  refine vl_end [(0, _), (1, _)] ⟨rfl, rfl, trivial⟩ ?_
  refine then_next ?_
  refine vc_seq ?_
  refine vc_seq ?_
  refine vc_region ?_
  refine vl_cut 6 23 [(0, _), (1, _)] ((sz : Int) < 1 ∨ 64 < (sz : Int)) ⟨rfl, rfl, trivial⟩ ?_ ?_
  · skip
    refine vl_det (det_move rfl) rfl ?_
    refine vl_det (det_lss rfl rfl) rfl ?_
    refine vl_det (det_move rfl) rfl ?_
    refine vl_guardn rfl rfl rfl (fun h20 => ?_) (fun h20 => ?_)
    · skip
      refine vl_det (det_move rfl) rfl ?_
      refine vl_guard_t rfl rfl ?_
      refine vl_det (det_gtr rfl rfl) rfl ?_
      refine vl_det (det_pick_f rfl rfl) rfl ?_
      exact vl_cut_end ⟨rfl, rfl, trivial⟩ (by first | rfl | exact bool_to_t (by first | omega | simp_all) | exact bool_to_f (by first | omega | simp_all) | exact bool_to (by first | omega | simp_all) | exact bool_to_b (by first | omega | simp_all))
    · skip
      refine vl_guard_f rfl rfl rfl rfl ?_
      refine vl_det (det_pick_t rfl rfl) rfl ?_
      exact vl_cut_end ⟨rfl, rfl, trivial⟩ (by first | rfl | exact bool_to_t (by first | omega | simp_all) | exact bool_to_f (by first | omega | simp_all) | exact bool_to (by first | omega | simp_all) | exact bool_to_b (by first | omega | simp_all))
  · skip
    refine vl_end [(0, _), (1, _), (23, _)] ⟨rfl, rfl, rfl, trivial⟩ ?_
    refine then_next ?_
    refine vc_decideU rfl (fun h23 => ?_) (fun h23 => ?_)
    · skip
      exfalso; omega
    · skip
      refine vc_skip ?_
      refine then_next ?_
      refine vc_seq ?_
      refine vc_region ?_
      refine vl_det (det_move rfl) rfl ?_
      refine vl_call co79 rfl (cnew_d hb (by omega)) rfl ?_
      rintro _ _ ⟨g25, A25, c25, rfl, hLL⟩
      obtain rfl := hLL.symm
      refine vl_det (det_assign rfl) rfl ?_
      refine vl_end [(0, _), (7, _)] ⟨rfl, rfl, trivial⟩ ?_
      refine then_next ?_
      refine vc_seq ?_
      refine vc_region ?_
      refine vl_det (det_move rfl) rfl ?_
      refine vl_call co80 rfl (cint_d (s := ⟨b, 0, 0⟩) ⟨Nat.zero_le _, by simp only; omega⟩ (by first | (exact Bor.own (by repeat (first | exact List.Mem.head _ | apply List.Mem.tail))) | (repeat (first | assumption | apply Bor.cons))) (most := 1048576) (by omega) (by omega)) rfl ?_
      rintro _ _ ⟨rfl, hLL⟩
      obtain rfl := hLL.symm
      rw [hNe]
      refine vl_det (det_assign rfl) rfl ?_
      refine vl_end [(0, _), (7, _), (8, _)] ⟨rfl, rfl, rfl, trivial⟩ ?_
      refine then_next ?_
      refine vc_seq ?_
      refine vc_nil_row 3 1 none ?_
      refine vc_region ?_
      refine vl_det (det_assign rfl) rfl ?_
      refine vl_end [(0, _), (7, _), (8, _), (9, _)] ⟨rfl, rfl, rfl, rfl, trivial⟩ ?_
      refine then_next ?_
      refine vc_seq ?_
      refine vc_seq ?_
      refine vc_region ?_
      refine vl_det (det_assign rfl) rfl ?_
      refine vl_end [(0, _), (7, _), (8, _), (9, _), (10, _)] ⟨rfl, rfl, rfl, rfl, rfl, trivial⟩ ?_
      refine then_next ?_
      refine vc_block ?_
      refine vc_loopJ (fun zf zL zm => ∃ (j q : Nat) (s : Cs) (S : List Nat) (A9 : Option Addr) (c9 : Nat), (j ≤ chN sz N ∧ q = j * sz ∧ S.length = j ∧ CsOk s ∧ s.b = b ∧ (∀ i, i < S.length → S.getD i 0 ≤ 2000) ∧ sizF (chN sz N - j) s S = dictS sz b) ∧ chN sz N - j = zm ∧ Sub zf [(0, .int .i64 sz), (7, .pointer (some ⟨g25, 0, none⟩)), (8, .int .i64 N), (9, .slice A9 S.length c9), (10, .int .i64 q)] ∧ Wk zL (Cv g25 A25 c25 s :: .own 5 1 A25 b.length c25 (bv b) :: .own 3 1 A9 S.length c9 (natv S) :: F)) _ ⟨0, 0, Cs.int' ⟨b, 0, 0⟩ 1048576, [], none, 0, ⟨Nat.zero_le _, (Nat.zero_mul _).symm, rfl, ho1, Cs.int'_b _ _, fun i h => absurd h (by simp), hDS.symm⟩, rfl, ⟨(by first | rfl | exact int_to (by omega) | exact sl_to (by omega)), (by first | rfl | exact int_to (by omega) | exact sl_to (by omega)), (by first | rfl | exact int_to (by omega) | exact sl_to (by omega)), (by first | rfl | exact int_to (by omega) | exact sl_to (by omega)), (by first | rfl | exact int_to (by omega) | exact sl_to (by omega)), trivial⟩, (wu1 (wu1 (wu0 (.refl _))))⟩ ?_
      rintro _ _ _ ⟨j, q, s, S, A9, c9, ⟨hj, hq, hSl, ho, hsb, hS2, hS⟩, rfl, hs, hp⟩
      refine vc_weaken _ hs (vc_wk hp ?_)
      clear hs hp
      refine vc_seq ?_
      refine vc_seq ?_
      refine vc_region ?_
      refine vl_cut 8 35 [(0, _), (7, _), (8, _), (9, _), (10, _)] ((q : Int) < N ∧ s.e = 0) ⟨rfl, rfl, rfl, rfl, rfl, trivial⟩ ?_ ?_
      · skip
        refine vl_det (det_move rfl) rfl ?_
        refine vl_det (det_move rfl) rfl ?_
        refine vl_det (det_lss rfl rfl) rfl ?_
        refine vl_det (det_move rfl) rfl ?_
        refine vl_guardp rfl rfl rfl (fun h31 => ?_) (fun h31 => ?_)
        · skip
          refine vl_det (det_move rfl) rfl ?_
          refine vl_guard_t rfl rfl ?_
          refine vl_call co81 rfl (cerr_d) rfl ?_
          rintro _ _ ⟨rfl, hLL⟩
          obtain rfl := hLL.symm
          refine vl_guard_t rfl rfl ?_
          refine vl_det (det_eql rfl rfl) rfl ?_
          refine vl_det (det_pick_t rfl rfl) rfl ?_
          exact vl_cut_end ⟨rfl, rfl, rfl, rfl, rfl, trivial⟩ (by first | rfl | exact bool_to_t (by first | omega | simp_all) | exact bool_to_f (by first | omega | simp_all) | exact bool_to (by first | omega | simp_all) | exact bool_to_b (by first | omega | simp_all))
        · skip
          refine vl_guard_f rfl rfl rfl rfl ?_
          refine vl_guard_f rfl rfl rfl rfl ?_
          refine vl_det (det_pick_f rfl rfl) rfl ?_
          exact vl_cut_end ⟨rfl, rfl, rfl, rfl, rfl, trivial⟩ (by first | rfl | exact bool_to_t (by first | omega | simp_all) | exact bool_to_f (by first | omega | simp_all) | exact bool_to (by first | omega | simp_all) | exact bool_to_b (by first | omega | simp_all))
      · skip
        refine vl_end [(0, _), (7, _), (8, _), (9, _), (10, _), (35, _)] ⟨rfl, rfl, rfl, rfl, rfl, rfl, trivial⟩ ?_
        refine then_next ?_
        refine vc_decideU rfl (fun h35 => ?_) (fun h35 => ?_)
        · skip
          have hjN : j < chN sz N := (chN_lt hs1).2 (by omega)
          have hjz : (j + 1) * sz ≤ chN sz N * sz := Nat.mul_le_mul_right sz hjN
          have hjs : (j + 1) * sz = j * sz + sz := Nat.succ_mul j sz
          have hi2 := Cs.int_le s (m := 2000) (by omega) (by omega)
          have hel : S.length + 1 = (S ++ [s.int 2000]).length := by simp
          rw [show chN sz N - j = (chN sz N - (j + 1)) + 1 by omega, sizF, if_neg (by simpa using h35.2)] at hS
          refine vc_skip ?_
          refine then_next ?_
          refine vc_seq ?_
          refine vc_block ?_
          refine vc_region ?_
          refine vl_det (det_move rfl) rfl ?_
          refine vl_det (det_move rfl) rfl ?_
          refine vl_call co80 rfl (cint_d ho (by rw [hsb]; exact (by first | (exact Bor.own (by repeat (first | exact List.Mem.head _ | apply List.Mem.tail))) | (repeat (first | assumption | apply Bor.cons)))) (most := 2000) (by omega) (by omega)) rfl ?_
          rintro _ _ ⟨rfl, hLL⟩
          obtain rfl := hLL.symm
          refine vl_push slT37 rfl rfl rfl rfl rfl (fun _ => rfl) (by repeat (first | exact .hd | apply Sel.tl)) (by omega) (by omega) ?_
          intro _ A43 c43
          refine vl_det (det_assign rfl) rfl ?_
          refine vl_end [(0, _), (7, _), (8, _), (9, _), (10, _)] ⟨rfl, rfl, rfl, rfl, rfl, trivial⟩ ?_
          refine in_normal ?_
          refine then_next ?_
          refine vc_region ?_
          refine vl_det (det_move rfl) rfl ?_
          refine vl_det (det_move rfl) rfl ?_
          refine vl_det (det_add rfl rfl (w_i64 (by omega) (by omega))) rfl ?_
          refine vl_det (det_assign rfl) rfl ?_
          refine vl_end [(0, _), (7, _), (8, _), (9, _), (10, _)] ⟨rfl, rfl, rfl, rfl, rfl, trivial⟩ ?_
          refine in_loop_ ⟨_, by omega, j + 1, q + sz, s.int' 2000, S ++ [s.int 2000], A43, c43, ⟨by omega, by omega, by simp; omega, ho.int' (by omega), by rw [Cs.int'_b]; exact hsb, fun i hi => by
  rcases Nat.lt_or_ge i S.length with h | h
  · rw [show (S ++ [s.int 2000]).getD i 0 = S.getD i 0 by simp [List.getD, List.getElem?_append_left h]]; exact hS2 i h
  · have : i = S.length := by simp at hi; omega
    rw [this]; simp; omega, hS⟩, rfl, ⟨(by first | rfl | exact int_to (by omega) | exact sl_to (by omega)), (by first | rfl | exact int_to (by omega) | exact sl_to (by omega)), (by first | rfl | exact int_to (by omega) | exact sl_to (by omega)), (by first | rfl | exact int_to (by omega) | exact sl_to (by omega)), (by first | rfl | exact int_to (by omega) | exact sl_to (by omega)), trivial⟩, .cons (.cons (wk_own hel (by simp [natv]) (.refl _)))⟩
        · skip
          have hSS : (s, S) = dictS sz b := by
            rw [← hS]
            by_cases h : j = chN sz N
            · rw [h, Nat.sub_self]; rfl
            · rw [show chN sz N - j = (chN sz N - (j + 1)) + 1 by omega, sizF, if_pos]
              intro h0
              exact h35 ⟨by have := (chN_lt hs1).1 (show j < chN sz N by omega); omega, h0⟩
          have hcm : s.e = 0 → S.length = chN sz N := by
            intro h0
            rcases Nat.lt_or_ge j (chN sz N) with h | h
            · exact absurd ⟨by have := (chN_lt hs1).1 h; omega, h0⟩ h35
            · omega
          rw [← hSS] at hDF
          refine vc_exit ?_
          refine then_exit ?_
          refine loop_exit ?_
          refine in_eq ?_
          refine then_next ?_
          refine vc_seq ?_
          refine vc_nil_row 9 1 none ?_
          refine vc_nil_row 9 1 none ?_
          refine vc_region ?_
          refine vl_det (det_move rfl) rfl ?_
          refine vl_det (det_buildp [(1, _)] [.slice none 0 0, .int .i64 0, .slice none 0 0] [1] [_, _, _] rfl rfl (by kernel_rfl)) rfl ?_
          refine vl_eff (eff_box rfl rfl) rfl ?_
          rintro _ _ ⟨g46, rfl, rfl⟩
          refine vl_det (det_assign rfl) rfl ?_
          refine vl_end [(0, _), (7, _), (8, _), (9, _), (11, _)] ⟨rfl, rfl, rfl, rfl, rfl, trivial⟩ ?_
          refine then_next ?_
          refine vc_seq ?_
          refine vc_seq ?_
          refine vc_region ?_
          refine vl_det (det_move rfl) rfl ?_
          refine vl_det (det_len_sl Try.underlying37 rfl) rfl ?_
          refine vl_det (det_move rfl) rfl ?_
          refine vl_end [(0, _), (7, _), (8, _), (11, _), (47, _), (48, _), (49, _)] ⟨rfl, rfl, rfl, rfl, rfl, rfl, rfl, trivial⟩ ?_
          refine then_next ?_
          refine vc_block ?_
          refine vc_loopJ (fun zf zL zm => ∃ (i z : Nat) (u : Cs) (o h : List Txt) (P1 : Option Addr) (p1 : Nat) (P2 : Option Addr) (p2 : Nat), (i ≤ S.length ∧ z = i * sz ∧ o.length = min z N ∧ CsOk u ∧ u.b = b ∧ (u.e = 0 → S.length = chN sz N) ∧ Le25 o ∧ h = (List.range i).map (fun j => o.getD (j * sz) []) ∧ bodyF sz N (S.drop i) u o = dictF sz b) ∧ S.length - i = zm ∧ Sub zf [(0, .int .i64 sz), (7, .pointer (some ⟨g25, 0, none⟩)), (8, .int .i64 N), (11, .pointer (some ⟨g46, 0, none⟩)), (47, .slice A9 S.length c9), (48, .int .i64 S.length), (49, .int .i64 i)] ∧ Wk zL (Cv g25 A25 c25 u :: .own 5 1 A25 b.length c25 (bv b) :: Dd g46 sz P1 p1 P2 p2 o h (.own 3 1 A9 S.length c9 (natv S) :: F))) _ ⟨0, 0, s, [], [], none, 0, none, 0, ⟨Nat.zero_le _, (Nat.zero_mul _).symm, by simp, ho, hsb, hcm, fun x hx => absurd hx (by simp), rfl, hDF.symm⟩, rfl, ⟨(by first | rfl | exact int_to (by omega) | exact sl_to (by omega)), (by first | rfl | exact int_to (by omega) | exact sl_to (by omega)), (by first | rfl | exact int_to (by omega) | exact sl_to (by omega)), (by first | rfl | exact int_to (by omega) | exact sl_to (by omega)), (by first | rfl | exact int_to (by omega) | exact sl_to (by omega)), (by first | rfl | exact int_to (by omega) | exact sl_to (by omega)), (by first | rfl | exact int_to (by omega) | exact sl_to (by omega)), trivial⟩, (wu3 (wu3 (wu0 (wu0 (wu0 (wu0 (.refl _)))))))⟩ ?_
          rintro _ _ _ ⟨i, z, u, o, h, P1, p1, P2, p2, ⟨hi, hz, hol, hou, hub, huc, ho25, hh, hB⟩, rfl, hs, hp⟩
          refine vc_weaken _ hs (vc_wk hp ?_)
          clear hs hp
          refine vc_seq ?_
          refine vc_region ?_
          refine vl_det (det_lss rfl rfl) rfl ?_
          refine vl_end [(0, _), (7, _), (8, _), (11, _), (47, _), (48, _), (49, _), (50, _)] ⟨rfl, rfl, rfl, rfl, rfl, rfl, rfl, rfl, trivial⟩ ?_
          refine then_next ?_
          refine vc_seq ?_
          refine vc_decideU rfl (fun h50 => ?_) (fun h50 => ?_)
          · skip
            have hiS : i < S.length := by omega
            have hzN : z < N := by have := (chN_lt hs1).1 (show i < chN sz N by omega); omega
            have hoz : o.length = z := by omega
            have hiz : (i + 1) * sz = i * sz + sz := Nat.succ_mul i sz
            have hizb : i * sz ≤ chN sz N * sz := Nat.mul_le_mul_right sz (by omega)
            have hS2k := hS2 i hiS
            rw [drop_getT hiS, bodyF] at hB
            obtain ⟨k, hk⟩ : ∃ k, k = S.getD i 0 := ⟨_, rfl⟩
            have hld : (natv S)[i * 1]? = some (.int .i64 (k : Int)) := by rw [hk]; simp [natv, List.getD, List.getElem?_eq_getElem hiS]
            rw [← hk] at hB hS2k
            obtain ⟨M, hM⟩ : ∃ M, M = min sz (N - o.length) := ⟨_, rfl⟩
            rw [← hM] at hB
            have hMe : min (sz : Int) ((N - z : Nat) : Int) = (M : Int) := by rw [hM, hoz]; omega
            have htk : (u.take k).length ≤ 1000000 := by
              unfold Cs.take
              split
              · simp
              · split
                · simp
                · simp only [List.length_take]; omega
            refine vc_skip ?_
            refine then_next ?_
            refine vc_seq ?_
            refine vc_block ?_
            refine vc_seq ?_
            refine vc_region ?_
            refine vl_det (det_move rfl) rfl ?_
            refine vl_det (det_indexAddr (size := 1) Try.underlying37 (by kernel_rfl) rfl rfl rfl (by omega) (by first | (exact Bor.own (by repeat (first | exact List.Mem.head _ | apply List.Mem.tail))) | (repeat (first | assumption | apply Bor.cons)))) rfl ?_
            refine vl_det (det_load_row (by kernel_rfl) rfl (by first | (exact Bor.own (by repeat (first | exact List.Mem.head _ | apply List.Mem.tail))) | (repeat (first | assumption | apply Bor.cons))) (by omega) hld) rfl ?_
            refine vl_det (det_assign rfl) rfl ?_
            refine vl_det (det_assign rfl) rfl ?_
            refine vl_end [(0, _), (7, _), (8, _), (11, _), (12, _), (13, _), (47, _), (48, _), (49, _)] ⟨rfl, rfl, rfl, rfl, rfl, rfl, rfl, rfl, rfl, trivial⟩ ?_
            refine then_next ?_
            refine vc_seq ?_
            refine vc_region ?_
            refine vl_det (det_move rfl) rfl ?_
            refine vl_det (det_move rfl) rfl ?_
            refine vl_call co82 rfl (ctake_d hou (by rw [hub]; exact (by first | (exact Bor.own (by repeat (first | exact List.Mem.head _ | apply List.Mem.tail))) | (repeat (first | assumption | apply Bor.cons)))) (m := (k : Int)) (by omega) (by omega)) rfl ?_
            rintro _ _ ⟨A56, c56, rfl, hLL⟩
            obtain rfl := hLL.symm
            refine vl_det (det_assign rfl) rfl ?_
            refine vl_end [(0, _), (7, _), (8, _), (11, _), (12, _), (14, _), (47, _), (48, _), (49, _)] ⟨rfl, rfl, rfl, rfl, rfl, rfl, rfl, rfl, rfl, trivial⟩ ?_
            refine then_next ?_
            refine vc_seq ?_
            refine vc_seq ?_
            refine vc_region ?_
            refine vl_det (det_move rfl) rfl ?_
            refine vl_call co81 rfl (cerr_d) rfl ?_
            rintro _ _ ⟨rfl, hLL⟩
            obtain rfl := hLL.symm
            refine vl_det (det_assign rfl) rfl ?_
            refine vl_end [(0, _), (7, _), (8, _), (11, _), (12, _), (14, _), (15, _), (47, _), (48, _), (49, _)] ⟨rfl, rfl, rfl, rfl, rfl, rfl, rfl, rfl, rfl, rfl, trivial⟩ ?_
            refine then_next ?_
            refine vc_seq ?_
            refine vc_region ?_
            refine vl_det (det_move rfl) rfl ?_
            refine vl_det (det_neq rfl rfl) rfl ?_
            refine vl_end [(0, _), (7, _), (8, _), (11, _), (12, _), (14, _), (15, _), (47, _), (48, _), (49, _), (60, _)] ⟨rfl, rfl, rfl, rfl, rfl, rfl, rfl, rfl, rfl, rfl, rfl, trivial⟩ ?_
            refine then_next ?_
            refine vc_decideU rfl (fun h60 => ?_) (fun h60 => ?_)
            · skip
              rw [if_pos h60] at hB
              refine vc_seq ?_
              refine vc_region ?_
              refine vl_det (det_move rfl) rfl ?_
              refine vl_det (det_assign rfl) rfl ?_
              refine vl_det (det_assign rfl) rfl ?_
              refine vl_det (det_assign rfl) rfl ?_
              refine vl_end [(4, _), (5, _), (6, _)] ⟨rfl, rfl, rfl, trivial⟩ ?_
              refine then_next ?_
              refine vc_ret ?_
              refine then_ret ?_
              refine in_ret ?_
              refine then_ret ?_
              refine loop_ret ?_
              refine in_ret ?_
              refine then_ret ?_
              refine ret_wk (L' := F) (.skip (.skip (.skip (.skip (.skip (.skip (.skip (.refl _)))))))) ?_
              refine ret3_ rfl rfl rfl rfl ?_
              have hz2 := hR1 (by rw [← hB]; exact h60)
              rw [← hB] at hz2
              exact .inl ⟨by rw [hz2]; exact h60, by rw [hz2], rfl⟩
            · skip
              rw [if_neg h60] at hB
              refine vc_skip ?_
              refine then_next ?_
              refine vc_seq ?_
              refine vc_region ?_
              refine vl_det (det_move rfl) rfl ?_
              refine vl_det (det_move rfl) rfl ?_
              refine vl_det (det_move rfl) rfl ?_
              refine vl_det (det_move rfl) rfl ?_
              refine vl_det (det_move rfl) rfl ?_
              refine vl_det (det_move rfl) rfl ?_
              refine vl_det (det_mul rfl rfl (r := (z : Int)) ((w_i64 (by rw [← Int.natCast_mul]; omega) (by rw [← Int.natCast_mul]; omega)).trans (by rw [hz]; exact Int.natCast_mul i sz))) rfl ?_
              refine vl_det (det_sub rfl rfl (r := ((N - z : Nat) : Int)) ((w_i64 (by omega) (by omega)).trans (by omega))) rfl ?_
              refine vl_det (det_min rfl rfl) rfl ?_
              rw [hMe]
              refine vl_call co83 rfl ((fill_d (b := u.take k) (m := M) (by omega) (by omega) (by first | (exact Bor.own (by repeat (first | exact List.Mem.head _ | apply List.Mem.tail))) | (repeat (first | assumption | apply Bor.cons))) (by omega) ho25 (by omega) (by rw [hh]; simp; omega)).perm ((pu3 (pu3 (pu3 (pu0 (pu0 (pu0 (.refl _))))))))) rfl ?_
              rintro _ _ ⟨P71, p71, Q71, q71, o2, h2, rfl, hLL, hfo⟩
              obtain rfl := hLL.symm
              refine vl_det (det_assign rfl) rfl ?_
              refine vl_end [(0, _), (7, _), (8, _), (11, _), (16, _), (47, _), (48, _), (49, _)] ⟨rfl, rfl, rfl, rfl, rfl, rfl, rfl, rfl, trivial⟩ ?_
              refine then_next ?_
              refine vc_seq ?_
              refine vc_region ?_
              refine vl_det (det_move rfl) rfl ?_
              refine vl_det (det_neq rfl rfl) rfl ?_
              refine vl_end [(0, _), (7, _), (8, _), (11, _), (16, _), (47, _), (48, _), (49, _), (73, _)] ⟨rfl, rfl, rfl, rfl, rfl, rfl, rfl, rfl, rfl, trivial⟩ ?_
              refine then_next ?_
              refine vc_decideU rfl (fun h73 => ?_) (fun h73 => ?_)
              · skip
                rw [if_pos h73] at hB
                refine vc_seq ?_
                refine vc_region ?_
                refine vl_det (det_move rfl) rfl ?_
                refine vl_det (det_assign rfl) rfl ?_
                refine vl_det (det_assign rfl) rfl ?_
                refine vl_det (det_assign rfl) rfl ?_
                refine vl_end [(4, _), (5, _), (6, _)] ⟨rfl, rfl, rfl, trivial⟩ ?_
                refine then_next ?_
                refine vc_ret ?_
                refine in_ret ?_
                refine then_ret ?_
                refine loop_ret ?_
                refine in_ret ?_
                refine then_ret ?_
                refine ret_wk (L' := F) (.skip (.skip (.skip (.skip (.skip (.skip (.skip (.refl _)))))))) ?_
                refine ret3_ rfl rfl rfl rfl ?_
                have hz2 := hR1 (by rw [← hB]; exact h73)
                rw [← hB] at hz2
                exact .inl ⟨by rw [hz2]; exact h73, by rw [hz2], rfl⟩
              · skip
                rw [if_neg h73] at hB
                have h73' : (fillF M true ⟨u.take k, 0, 0⟩ o).2 = 0 := by simpa using h73
                obtain ⟨ho2, hh2, ho225, ho2l⟩ := hfo h73'
                rw [← ho2] at hB
                obtain ⟨t, ht, htl⟩ := fillF_app _ _ _ _ h73'
                rw [← ho2] at ht
                refine vc_skip ?_
                refine in_normal ?_
                refine then_next ?_
                refine vc_region ?_
                refine vl_det (det_add rfl rfl (w_i64 (by omega) (by omega))) rfl ?_
                refine vl_det (det_move rfl) rfl ?_
                refine vl_end [(0, _), (7, _), (8, _), (11, _), (47, _), (48, _), (49, _)] ⟨rfl, rfl, rfl, rfl, rfl, rfl, rfl, trivial⟩ ?_
                refine in_loop_ ⟨_, by omega, i + 1, z + sz, u.take' k, o2, h2, P71, p71, Q71, q71, ⟨by omega, by omega, by omega, hou.take', by rw [Cs.take'_b]; exact hub, fun q => huc (Cs.moved_e0' q), ho225, by rw [hh2, hh, ht]; exact heads_step hz hs1 hol hzN, hB⟩, rfl, ⟨(by first | rfl | exact int_to (by omega) | exact sl_to (by omega)), (by first | rfl | exact int_to (by omega) | exact sl_to (by omega)), (by first | rfl | exact int_to (by omega) | exact sl_to (by omega)), (by first | rfl | exact int_to (by omega) | exact sl_to (by omega)), (by first | rfl | exact int_to (by omega) | exact sl_to (by omega)), (by first | rfl | exact int_to (by omega) | exact sl_to (by omega)), (by first | rfl | exact int_to (by omega) | exact sl_to (by omega)), trivial⟩, (wu3 (wu4 (wu0 (wu0 (wu0 (wu1 (.skip (.refl _))))))))⟩
          · skip
            have hiS : i = S.length := by omega
            rw [List.drop_of_length_le (by omega), bodyF] at hB
            refine vc_exit ?_
            refine then_exit ?_
            refine loop_exit ?_
            refine in_eq ?_
            refine then_next ?_
            refine vc_seq ?_
            refine vc_seq ?_
            refine vc_region ?_
            refine vl_det (det_move rfl) rfl ?_
            refine vl_call co81 rfl (cerr_d) rfl ?_
            rintro _ _ ⟨rfl, hLL⟩
            obtain rfl := hLL.symm
            refine vl_det (det_assign rfl) rfl ?_
            refine vl_end [(7, _), (11, _), (17, _)] ⟨rfl, rfl, rfl, trivial⟩ ?_
            refine then_next ?_
            refine vc_seq ?_
            refine vc_region ?_
            refine vl_det (det_move rfl) rfl ?_
            refine vl_det (det_neq rfl rfl) rfl ?_
            refine vl_end [(7, _), (11, _), (17, _), (79, _)] ⟨rfl, rfl, rfl, rfl, trivial⟩ ?_
            refine then_next ?_
            refine vc_decideU rfl (fun h79 => ?_) (fun h79 => ?_)
            · skip
              rw [if_pos h79] at hB
              refine vc_seq ?_
              refine vc_region ?_
              refine vl_det (det_move rfl) rfl ?_
              refine vl_det (det_assign rfl) rfl ?_
              refine vl_det (det_assign rfl) rfl ?_
              refine vl_det (det_assign rfl) rfl ?_
              refine vl_end [(4, _), (5, _), (6, _)] ⟨rfl, rfl, rfl, trivial⟩ ?_
              refine then_next ?_
              refine vc_ret ?_
              refine then_ret ?_
              refine ret_wk (L' := F) (.skip (.skip (.skip (.skip (.skip (.skip (.refl _))))))) ?_
              refine ret3_ rfl rfl rfl rfl ?_
              have hz2 := hR1 (by rw [← hB]; exact h79)
              rw [← hB] at hz2
              exact .inl ⟨by rw [hz2]; exact h79, by rw [hz2], rfl⟩
            · skip
              rw [if_neg h79] at hB
              refine vc_skip ?_
              refine then_next ?_
              refine vc_seq ?_
              refine vc_region ?_
              refine vl_det (det_move rfl) rfl ?_
              refine vl_det (det_move rfl) rfl ?_
              refine vl_call co84 rfl (dcat_d) rfl ?_
              rintro _ _ ⟨rfl, hLL⟩
              obtain rfl := hLL.symm
              refine vl_det (det_assign rfl) rfl ?_
              refine vl_det (det_assign rfl) rfl ?_
              refine vl_det (det_assign rfl) rfl ?_
              refine vl_end [(4, _), (5, _), (6, _)] ⟨rfl, rfl, rfl, trivial⟩ ?_
              refine then_next ?_
              refine vc_ret ?_
              have hz2 := hR2 (by rw [← hB])
              rw [← hB] at hz2
              have hn : o.length = N := by have := chN_ge (n := N) hs1; have := huc (by simpa using h79); rw [hol, hz, hiS, this]; omega
              have hhd : h = hdS sz o := by unfold hdS; rw [hn, hh, hiS, huc (by simpa using h79)]
              refine ret_wk (L' := Dd g46 sz P1 p1 P2 p2 o h F) ((wu2 (wu2 (wu2 (.skip (.skip (.skip (.refl _)))))))) ?_
              refine ret3_ rfl rfl rfl rfl ?_
              exact .inr ⟨by rw [hz2], by omega, by omega, by rw [hz2]; exact ho25, by rw [hz2]; simp only; omega, g46, P1, p1, P2, p2, by rw [hz2], by rw [hz2, hhd]; rfl⟩
theorem dread_d {size : Int} {b : List UInt8} (hb : Bor B w0 F 1 (.slice A b.length c) b.length (bv b)) (hbl : b.length ≤ 1000000000) :
    Does Try.prog B w0 48 [.int .i64 size, .slice A b.length c] F (DictQ size b F) := by
  by_cases hE : size < 1 ∨ 64 < size
  · exact dread_bad hE
  · obtain ⟨sz, rfl⟩ := Int.eq_ofNat_of_zero_le (show 0 ≤ size by omega)
    exact dread_ok (by omega) (by omega) hb hbl
theorem dread_good {sz k : Nat} {b : List UInt8} {l : List Txt} (hs1 : 1 ≤ sz) (hs2 : sz ≤ 64) (hb : Bor B w0 F 1 (.slice A b.length c) b.length (bv b)) (hbl : b.length ≤ 1000000000) (he : dictR sz b = (l, k, 0)) :
    Does Try.prog B w0 48 [.int .i64 sz, .slice A b.length c] F (fun r L => ∃ g A1 c1 A2 c2, r = .tuple #[.pointer (some ⟨g, 0, none⟩), .int .i64 k, .int .i64 0] ∧ L = Dd g sz A1 c1 A2 c2 l (hdS sz l) F) :=
  (dread_ok hs1 hs2 hb hbl).mono fun r L h => by
    rcases h with ⟨h, _⟩ | ⟨_, _, _, _, _, g, A1, c1, A2, c2, h1, h2⟩
    · rw [he] at h; exact absurd rfl h
    · rw [he] at h1 h2; exact ⟨g, A1, c1, A2, c2, h1, h2⟩
theorem dread_err {size : Int} {b : List UInt8} (hb : Bor B w0 F 1 (.slice A b.length c) b.length (bv b)) (hbl : b.length ≤ 1000000000) (he : (dictR size b).2.2 ≠ 0) :
    Does Try.prog B w0 48 [.int .i64 size, .slice A b.length c] F (fun r L => r = .tuple #[.pointer none, .int .i64 0, .int .i64 (dictR size b).2.2] ∧ L = F) :=
  (dread_d hb hbl).mono fun r L h => by
    rcases h with ⟨_, h1, h2⟩ | ⟨h, _⟩
    · exact ⟨h1, h2⟩
    · exact absurd h he
end Go.Proofs.Ytpamjobiohbibaa
namespace Go.Proofs.Ytpamjobiohbibaa
open Go.RowKit
set_option linter.unusedVariables false
set_option maxRecDepth 20000
variable {B : Nat} {w0 : World} {F : List Ch} {A A1 A2 : Option Addr} {n c c1 c2 g : Nat} {s : Cs} {sz : Nat} {o h : List Txt}
theorem Does.bor_nil {P : Program} {B : Nat} {w0 : World} {L : List Ch} {ff : FuncId} {args : List Value} {R : Value → List Ch → Prop} {size nn c : Nat} {xs : List Value} (hb : Bor B w0 L size (.slice none nn c) nn xs) (h : nn = 0 → Does P B w0 ff args L R) : Does P B w0 ff args L R := fun w hw => by
  obtain ⟨A', c', hv, hc, hl, hr⟩ := hb w hw
  injection hv with h1 _ h3
  subst h1
  rcases Nat.eq_zero_or_pos nn with h0 | h0
  · exact h h0 w hw
  · obtain ⟨ad, e, _⟩ := hr h0
    cases e
theorem sclone_d (l : List Txt) (hb : Bor B w0 F 1 (.slice A l.length c) l.length (strs l)) (hn : l.length ≤ 1099511627776) :
    Does Try.prog B w0 88 [.slice A l.length c] F (fun r L => ∃ A' c', r = .slice A' l.length c' ∧ L = .own 9 1 A' l.length c' (strs l) :: F) := by
  rcases A with _ | ad
  · refine Does.bor_nil hb fun h0 => ?_
    have : l = [] := List.eq_nil_of_length_eq_zero h0
    subst this
    refine fn_walk Try.func88 8 rfl rfl rfl [(0, .slice none 0 c)] ⟨⟨rfl, rfl⟩, trivial⟩ ?_
    refine vc_seq ?_
    refine vc_region ?_
    refine vl_det (det_assign rfl) rfl ?_
    refine vl_end [(0, _)] ⟨rfl, trivial⟩ ?_
    refine then_next ?_
    refine vc_seq ?_
    refine vc_seq ?_
    refine vc_region ?_
    refine vl_det (det_move rfl) rfl ?_
    refine vl_det (det_sl_nil Try.underlying26 rfl rfl) rfl ?_
    refine vl_end [(0, _), (4, _)] ⟨rfl, rfl, trivial⟩ ?_
    refine then_next ?_
    refine vc_cond_t rfl ?_
    refine vc_seq ?_
    refine vc_region ?_
    refine vl_det (det_assign rfl) rfl ?_
    refine vl_end [(2, _)] ⟨rfl, trivial⟩ ?_
    refine then_next ?_
    refine vc_ret ?_
    refine then_ret ?_
    refine ret_nil_row 9 1 none ?_
    refine ret1 rfl rfl ?_
    exact ⟨none, 0, rfl, rfl⟩
  · skip
    refine fn_walk Try.func88 8 rfl rfl rfl [(0, .slice (some ad) l.length c)] ⟨⟨rfl, rfl⟩, trivial⟩ ?_
    refine vc_seq ?_
    refine vc_region ?_
    refine vl_det (det_assign rfl) rfl ?_
    refine vl_end [(0, _)] ⟨rfl, trivial⟩ ?_
    refine then_next ?_
    refine vc_seq ?_
    refine vc_seq ?_
    refine vc_region ?_
    refine vl_det (det_move rfl) rfl ?_
    refine vl_det (det_sl_nil Try.underlying26 rfl rfl) rfl ?_
    refine vl_end [(0, _), (4, _)] ⟨rfl, rfl, trivial⟩ ?_
    refine then_next ?_
    refine vc_cond_f rfl ?_
    refine vc_skip ?_
    refine then_next ?_
    refine vc_seq ?_
    refine vc_region ?_
    refine vl_eff (eff_build_empty slT26) rfl ?_
    rintro _ _ ⟨A5, rfl, rfl⟩
    refine vl_det (det_move rfl) rfl ?_
    refine vl_eff (eff_app slT26 rfl (by repeat (first | exact .hd | apply Sel.tl)) rfl (by first | (exact Bor.own (by repeat (first | exact List.Mem.head _ | apply List.Mem.tail))) | (repeat (first | assumption | apply Bor.cons))) (by first | exact bv_one _ | exact strs_one _ | exact ints_one _ _ | (simp; done) | (simp [Value.oneCell']; done) | assumption) (by omega) (by omega)) rfl ?_
    rintro _ _ ⟨A7, c7, rfl, rfl⟩
    refine vl_det (det_assign rfl) rfl ?_
    refine vl_end [(2, _)] ⟨rfl, trivial⟩ ?_
    refine then_next ?_
    refine vc_ret ?_
    rw [Nat.zero_add, List.nil_append]
    refine ret1 rfl rfl ?_
    exact ⟨_, _, rfl, rfl⟩
theorem dall_d (hn : o.length ≤ 1048576) :
    Does Try.prog B w0 51 [.pointer (some ⟨g, 0, none⟩)] (Dd g sz A1 c1 A2 c2 o h F) (fun r L => ∃ A' c', r = .slice A' o.length c' ∧ L = Dd g sz A1 c1 A2 c2 o h (.own 9 1 A' o.length c' (strs o) :: F)) := by
  refine fn_walk Try.func51 11 rfl rfl rfl [(0, .pointer (some ⟨g, 0, none⟩))] ⟨⟨rfl, rfl⟩, trivial⟩ ?_
  refine vc_seq ?_
  refine vc_region ?_
  refine vl_det (det_assign rfl) rfl ?_
  refine vl_end [(0, _)] ⟨rfl, trivial⟩ ?_
  refine then_next ?_
  refine vc_seq ?_
  refine vc_seq ?_
  refine vc_region ?_
  refine vl_det (det_move rfl) rfl ?_
  refine vl_det (det_ptr_nil Try.underlying77 rfl rfl) rfl ?_
  refine vl_end [(0, _), (4, _)] ⟨rfl, rfl, trivial⟩ ?_
  refine then_next ?_
  refine vc_cond_f rfl ?_
  refine vc_skip ?_
  refine then_next ?_
  refine vc_seq ?_
  refine vc_region ?_
  refine vl_det (det_move rfl) rfl ?_
  refine vl_det (det_nilCheck rfl) rfl ?_
  refine vl_det (det_fieldAddr_ Try.underlying125 rfl (by kernel_rfl) rfl rfl) rfl ?_
  refine vl_det (det_fieldAddr_ Try.underlying123 rfl (by kernel_rfl) rfl rfl) rfl ?_
  refine vl_det (det_load_blk (by kernel_rfl) rfl (by repeat (first | exact .hd | apply Sel.tl)) rfl) rfl ?_
  refine vl_call co88 rfl (sclone_d o (by first | (exact Bor.own (by repeat (first | exact List.Mem.head _ | apply List.Mem.tail))) | (repeat (first | assumption | apply Bor.cons))) (by omega)) rfl ?_
  rintro _ _ ⟨A10, c10, rfl, hLL⟩
  obtain rfl := hLL.symm
  refine vl_det (det_assign rfl) rfl ?_
  refine vl_end [(2, _)] ⟨rfl, trivial⟩ ?_
  refine then_next ?_
  refine vc_ret ?_
  refine ret_wk (L' := Dd g sz A1 c1 A2 c2 o h (.own 9 1 A10 o.length c10 (strs o) :: F)) ((wu1 (wu1 (wu1 (wu0 (.refl _)))))) ?_
  refine ret1 rfl rfl ?_
  exact ⟨A10, c10, rfl, rfl⟩
theorem dlen_d : Does Try.prog B w0 50 [.pointer (some ⟨g, 0, none⟩)] (Dd g sz A1 c1 A2 c2 o h F) (fun r L => r = .int .i64 o.length ∧ L = Dd g sz A1 c1 A2 c2 o h F) := by
  refine fn_walk Try.func50 11 rfl rfl rfl [(0, .pointer (some ⟨g, 0, none⟩))] ⟨⟨rfl, rfl⟩, trivial⟩ ?_
  refine vc_seq ?_
  refine vc_region ?_
  refine vl_det (det_assign rfl) rfl ?_
  refine vl_end [(0, _)] ⟨rfl, trivial⟩ ?_
  refine then_next ?_
  refine vc_seq ?_
  refine vc_seq ?_
  refine vc_region ?_
  refine vl_det (det_move rfl) rfl ?_
  refine vl_det (det_ptr_nil Try.underlying77 rfl rfl) rfl ?_
  refine vl_end [(0, _), (4, _)] ⟨rfl, rfl, trivial⟩ ?_
  refine then_next ?_
  refine vc_cond_f rfl ?_
  refine vc_skip ?_
  refine then_next ?_
  refine vc_seq ?_
  refine vc_region ?_
  refine vl_det (det_move rfl) rfl ?_
  refine vl_det (det_nilCheck rfl) rfl ?_
  refine vl_det (det_fieldAddr_ Try.underlying125 rfl (by kernel_rfl) rfl rfl) rfl ?_
  refine vl_det (det_fieldAddr_ Try.underlying123 rfl (by kernel_rfl) rfl rfl) rfl ?_
  refine vl_det (det_load_blk (by kernel_rfl) rfl (by repeat (first | exact .hd | apply Sel.tl)) rfl) rfl ?_
  refine vl_det (det_len_sl Try.underlying26 rfl) rfl ?_
  refine vl_det (det_assign rfl) rfl ?_
  refine vl_end [(2, _)] ⟨rfl, trivial⟩ ?_
  refine then_next ?_
  refine vc_ret ?_
  refine ret1 rfl rfl ?_
  exact ⟨rfl, rfl⟩
/-- a text's place -/
def fndK (o : List Txt) (t : Txt) (k : Nat) : Prop := (t ∈ o ∧ k < o.length ∧ o.getD k [] = t) ∨ (t ∉ o ∧ k = 0)
end Go.Proofs.Ytpamjobiohbibaa
namespace Go.Proofs.Ytpamjobiohbibaa
open Go.RowKit
set_option linter.unusedVariables false
theorem Cs.moved_mk {s : Cs} (h : s.e = 0) {k : Nat} {e : Int} (hk : e ≠ 0 → k = 0) : s.moved k e = ⟨s.b, s.at_ + k, e⟩ := by
  unfold Cs.moved
  rw [if_neg (by simp [h])]
  split
  · rename_i he; rw [hk he]; rfl
  · rename_i he
    have : e = 0 := by simpa using he
    rw [this, ← h]
theorem Cs.num_mk {s : Cs} (h : s.e = 0) : s.num = (scanS s.rest).1 ∧ s.num' = ⟨s.b, s.at_ + (scanS s.rest).2.1, (scanS s.rest).2.2⟩ := ⟨by simp [Cs.num, h], Cs.moved_mk h fun he => (scanS_err he).2⟩
theorem Cs.int_mk {s : Cs} (h : s.e = 0) (m : Int) : s.int m = (limS s.rest m).1 ∧ s.int' m = ⟨s.b, s.at_ + (limS s.rest m).2.1, (limS s.rest m).2.2⟩ := ⟨by simp [Cs.int, h], Cs.moved_mk h fun he => (limS_err he).2⟩
theorem tex3_err {l : List UInt8} {x k : Nat} {er : Int} (h : (tex3 l x k er).2.2 ≠ 0) : (tex3 l x k er).1 = [] ∧ (tex3 l x k er).2.1 = 0 := by
  unfold tex3 at h ⊢
  split
  · exact ⟨rfl, rfl⟩
  · split
    · exact ⟨rfl, rfl⟩
    · rename_i h1 h2
      rw [if_neg h1, if_neg h2] at h
      exact absurd rfl h
theorem Cs.text_mk {s : Cs} (h : s.e = 0) (m : Int) : s.text m = (textS s.rest m).1 ∧ s.text' m = ⟨s.b, s.at_ + (textS s.rest m).2.1, (textS s.rest m).2.2⟩ := ⟨by simp [Cs.text, h], Cs.moved_mk h fun he => (tex3_err he).2⟩
theorem Cs.take_mk {s : Cs} (h : s.e = 0) (m : Int) : s.take m = takeT s.rest m ∧ s.take' m = ⟨s.b, s.at_ + takeK s.rest m, takeErr s.rest m⟩ := ⟨take_of h, by rw [take'_of]; exact Cs.moved_mk h fun he => by simp [takeK, he]⟩
theorem Cs.bad {s : Cs} (h : ¬ s.e = 0) : s.num = 0 ∧ s.num' = s ∧ (∀ m, s.int m = 0 ∧ s.int' m = s ∧ s.text m = [] ∧ s.text' m = s ∧ s.take m = [] ∧ s.take' m = s) := by
  refine ⟨by simp [Cs.num, h], by simp [Cs.num', Cs.moved, h], fun m => ⟨by simp [Cs.int, h], by simp [Cs.int', Cs.moved, h], by simp [Cs.text, h], by simp [Cs.text', Cs.moved, h], by simp [Cs.take, h], by simp [Cs.take', Cs.moved, h]⟩⟩
end Go.Proofs.Ytpamjobiohbibaa
namespace Go.Proofs.Ytpamjobiohbibaa
theorem Cs.moved_bad {s : Cs} (h : s.e = 0) (n : Nat) {er : Int} (he : er ≠ 0) : s.moved n er = { s with e := er } := by unfold Cs.moved; rw [if_neg (by simp [h]), if_pos he]
theorem Cs.moved_ok {s : Cs} (h : s.e = 0) (n : Nat) : s.moved n 0 = { s with at_ := s.at_ + n } := by unfold Cs.moved; rw [if_neg (by simp [h]), if_neg (by simp)]
theorem Cs.moved_err {s : Cs} (h : s.e ≠ 0) (n : Nat) (er : Int) : s.moved n er = s := by unfold Cs.moved; rw [if_pos h]
theorem Cs.end_err {s : Cs} (h : s.end'.e = 0) : s.e = 0 ∧ s.left = 0 := by
  unfold Cs.end' at h
  split at h
  · unfold Cs.failed at h
    split at h
    · exact absurd h (by simp)
    · rename_i h1 h2
      exact absurd h h2
  · exact ⟨h, by omega⟩
/-- p was read -/
structure Rds (s s' : Cs) (p : List UInt8) : Prop where
  e0 : s.e = 0
  eq : s' = ⟨s.b, s.at_ + p.length, 0⟩
  rest : s.rest = p ++ s'.rest
theorem Rds.e1 {s s' : Cs} {p : List UInt8} (h : Rds s s' p) : s'.e = 0 := by rw [h.eq]
theorem Rds.nil {s : Cs} (h : s.e = 0) : Rds s s [] := ⟨h, by cases s; simp at h; simp [h], rfl⟩
theorem Rds.trans {s s' s'' : Cs} {p q : List UInt8} (h : Rds s s' p) (k : Rds s' s'' q) : Rds s s'' (p ++ q) := by
  refine ⟨h.e0, ?_, by rw [h.rest, k.rest, List.append_assoc]⟩
  rw [k.eq, h.eq, List.length_append, Nat.add_assoc]
theorem Rds.of_moved {s : Cs} {k : Nat} {er : Int} {p : List UInt8} (h : (s.moved k er).e = 0) (hp : er = 0 → p = s.rest.take k) (hk : er = 0 → k ≤ s.rest.length) : er = 0 ∧ Rds s (s.moved k er) p := by
  by_cases h0 : s.e = 0
  · by_cases he : er = 0
    · subst he
      have e1 := hp rfl
      have e2 := hk rfl
      have hl : p.length = k := by rw [e1, List.length_take]; omega
      rw [Cs.moved_ok h0]
      refine ⟨rfl, h0, by rw [hl, ← h0], ?_⟩
      rw [e1]
      show s.rest = s.rest.take k ++ s.b.drop (s.at_ + k)
      rw [← List.drop_drop]
      exact (List.take_append_drop k s.rest).symm
    · rw [Cs.moved_bad h0 _ he] at h
      exact absurd h he
  · rw [Cs.moved_err h0] at h
    exact absurd h h0
theorem limS_ok {l : List UInt8} {m : Int} (h : (limS l m).2.2 = 0) : (scanS l).2.2 = 0 ∧ limS l m = ((scanS l).1, (scanS l).2.1, 0) ∧ ((scanS l).1 : Int) ≤ m := by
  unfold limS at h ⊢
  by_cases h1 : (scanS l).2.2 ≠ 0
  · rw [if_pos h1] at h; exact absurd h h1
  · rw [if_neg h1] at h ⊢
    by_cases h2 : m < 0 ∨ m < (scanS l).1
    · rw [if_pos h2] at h; simp at h
    · rw [if_neg h2] at h ⊢
      exact ⟨by simpa using h1, rfl, by omega⟩
theorem Cs.moved_e0 {s : Cs} {k : Nat} {er : Int} (h : (s.moved k er).e = 0) : s.e = 0 ∧ er = 0 := by
  by_cases h0 : s.e = 0
  · by_cases he : er = 0
    · exact ⟨h0, he⟩
    · rw [Cs.moved_bad h0 _ he] at h; exact absurd h he
  · rw [Cs.moved_err h0] at h; exact absurd h h0
theorem Cs.int_rds {s : Cs} {m : Int} (h : (s.int' m).e = 0) : Rds s (s.int' m) (encN (s.int m)) ∧ (s.int m : Int) ≤ m ∧ s.int m < 18446744073709551616 := by
  obtain ⟨h0, he⟩ := Cs.moved_e0 h
  obtain ⟨h1, h2, h3⟩ := limS_ok he
  have hi : s.int m = (scanS s.rest).1 := by rw [(Cs.int_mk h0 m).1, h2]
  refine ⟨(Rds.of_moved h (fun _ => by rw [hi, scanS_enc h1, h2]) (fun _ => by rw [h2]; exact (scanS_facts _).2.1)).2, by rw [hi]; exact h3, by rw [hi]; exact (scanS_facts _).1⟩
theorem Cs.text_rds {s : Cs} {m : Int} (h : (s.text' m).e = 0) : Rds s (s.text' m) (encT (s.text m)) ∧ ((s.text m).length : Int) ≤ m := by
  obtain ⟨h0, he⟩ := Cs.moved_e0 h
  have e : textS s.rest m = tex3 s.rest (limS s.rest m).1 (limS s.rest m).2.1 (limS s.rest m).2.2 := rfl
  rw [e] at he
  by_cases hl : (limS s.rest m).2.2 = 0
  · obtain ⟨h1, h2, h3⟩ := limS_ok hl
    by_cases hx : s.rest.length - (limS s.rest m).2.1 < (limS s.rest m).1
    · rw [tex3_b (by simpa using hl) hx] at he; simp at he
    · have e2 := tex3_c (l := s.rest) (x := (limS s.rest m).1) (k := (limS s.rest m).2.1) (er := (limS s.rest m).2.2) (by simpa using hl) hx
      rw [← e, h2] at e2
      rw [h2] at hx
      simp only at e2 hx
      have hk := (scanS_facts s.rest).2.1
      have ht : s.text m = (s.rest.drop (scanS s.rest).2.1).take (scanS s.rest).1 := by rw [(Cs.text_mk h0 m).1, e2]
      have htl : (s.text m).length = (scanS s.rest).1 := by rw [ht, List.length_take, List.length_drop]; omega
      refine ⟨(Rds.of_moved h (fun _ => ?_) (fun _ => by rw [e2]; simp only; omega)).2, by rw [htl]; exact h3⟩
      rw [encT, htl, scanS_enc h1, ht, e2]
      simp only
      rw [List.take_add]
  · rw [tex3_a hl] at he; exact absurd he hl
theorem Cs.take_rds {s : Cs} {n : Int} (h : (s.take' n).e = 0) : Rds s (s.take' n) (s.take n) ∧ (s.take n).length = n.toNat ∧ 0 ≤ n := by
  obtain ⟨h0, he⟩ := Cs.moved_e0 h
  have ht := takeErr_le he
  have e : s.take n = s.rest.take n.toNat := by rw [take_of h0, takeT, if_neg (by simpa using he)]
  exact ⟨(Rds.of_moved h (fun _ => e) (fun _ => ht.2)).2, by rw [e, List.length_take]; omega, ht.1⟩
end Go.Proofs.Ytpamjobiohbibaa
namespace Go.Proofs.Ytpamjobiohbibaa
open Go.RowKit
set_option linter.unusedVariables false
set_option maxRecDepth 20000
/-- texts that rise behind another one -/
def ChT : Txt → List Txt → Prop
  | _, [] => True
  | w, s :: r => mayT w s ∧ ChT s r
/-- the last one behind w -/
def endT : Txt → List Txt → Txt
  | w, [] => w
  | _, s :: r => endT s r
theorem endT_snoc : ∀ (w : Txt) (l : List Txt) (x : Txt), endT w (l ++ [x]) = x
  | _, [], _ => rfl
  | _, s :: r, x => endT_snoc s r x
theorem endT_app : ∀ (w : Txt) (a b : List Txt), endT w (a ++ b) = endT (endT w a) b
  | _, [], _ => rfl
  | _, s :: r, b => endT_app s r b
theorem prvT_end : ∀ (l : List Txt), prvT l l.length = endT [] l := by
  intro l
  rcases List.eq_nil_or_concat l with rfl | ⟨l', x, rfl⟩
  · rfl
  · rw [List.concat_eq_append, endT_snoc]
    unfold prvT
    rw [if_neg (by simp)]
    simp
theorem ChT.app : ∀ {w : Txt} {a b : List Txt}, ChT w a → ChT (endT w a) b → ChT w (a ++ b)
  | _, [], _, _, h => h
  | _, s :: r, b, h, k => ⟨h.1, ChT.app h.2 k⟩
theorem ChT.left : ∀ {w : Txt} {a b : List Txt}, ChT w (a ++ b) → ChT w a
  | _, [], _, _ => trivial
  | _, s :: r, b, h => ⟨h.1, ChT.left h.2⟩
theorem ChT.right : ∀ {w : Txt} {a b : List Txt}, ChT w (a ++ b) → ChT (endT w a) b
  | _, [], _, h => h
  | _, s :: r, b, h => ChT.right (a := r) h.2
theorem ChT.get : ∀ {w : Txt} {l : List Txt}, ChT w l → ∀ i, i < l.length → mayT (if i = 0 then w else l.getD (i - 1) []) (l.getD i [])
  | _, [], _, i, hi => absurd hi (by simp)
  | w, s :: r, h, 0, _ => by simpa using h.1
  | w, s :: r, h, i + 1, hi => by
    have := ChT.get h.2 i (by simpa using hi)
    cases i with
    | zero => simpa using this
    | succ i => simpa using this
theorem ChT.of_get : ∀ {w : Txt} {l : List Txt}, (∀ i, i < l.length → mayT (if i = 0 then w else l.getD (i - 1) []) (l.getD i [])) → ChT w l
  | _, [], _ => trivial
  | w, s :: r, h => by
    refine ⟨by simpa using h 0 (by simp), ChT.of_get fun i hi => ?_⟩
    have := h (i + 1) (by simpa using hi)
    cases i with
    | zero => simpa using this
    | succ i => simpa using this
theorem RisT.ch {l : List Txt} (h : RisT l) : ChT [] l := ChT.of_get h.1
theorem ChT.ris {l : List Txt} (h : ChT [] l) (hl : l.length ≤ 1048576) : RisT l := ⟨h.get, hl⟩
/-! what was written is read -/
end Go.Proofs.Ytpamjobiohbibaa
