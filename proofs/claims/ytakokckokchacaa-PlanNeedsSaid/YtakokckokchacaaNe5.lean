/-
  Texts of one proof, joined: part 5. No condition.
-/
import Derived.Test.YtakokckokchacaaNe4
namespace Go.Proofs.Ytakokckokchacaa
open Go.RowKit
set_option linter.unusedVariables false
set_option maxRecDepth 20000
variable {B : Nat} {w0 : World} {F L M : List Ch} {A A2 A3 : Option Addr} {n c c2 c3 g : Nat} {q : List StepC}
/-- the words of steps, in their order -/
def rawN (q : List StepC) : List Txt := (q.filter (fun s => decide (s.1 ≤ 2))).map (fun s => s.2.2.1)
theorem rawN_len (q : List StepC) : (rawN q).length ≤ q.length := by
  unfold rawN; rw [List.length_map]; exact List.length_filter_le _ _
theorem rawN_take {q : List StepC} {k : Nat} (h : k < q.length) : rawN (q.take (k + 1)) = rawN (q.take k) ++ (if (q.getD k sNil).1 ≤ 2 then [(q.getD k sNil).2.2.1] else []) := by
  unfold rawN
  rw [take_getD h sNil, List.filter_append, List.map_append]
  congr 1
  generalize q.getD k sNil = s
  by_cases hc : s.1 ≤ 2
  · simp [hc]
  · simp [hc]
theorem word_iff {s : StepC} (h : rightS s) : s.1 ≤ 2 ↔ ¬ s.2.2.1 = [] := by
  obtain ⟨op, nn, wd, fr, to⟩ := s
  simp only
  rcases h with ⟨h1, _, _, _, h2⟩ | ⟨h1, _, h2⟩ | ⟨h1, _, h2, _⟩ | ⟨h1, _, h2, _⟩ <;> simp only at h1 h2
  · exact ⟨fun _ e => by rw [e] at h2; exact absurd h2 (by decide), fun _ => by omega⟩
  · exact ⟨fun _ => by omega, fun e => absurd h2 e⟩
  · exact ⟨fun _ => by omega, fun e => absurd h2 e⟩
  · exact ⟨fun _ => by omega, fun e => absurd h2 e⟩
theorem pneeds_bad (hb : Bor B w0 F 5 (.slice A q.length c) q.length (stepsV q)) (hq : checkQ q ≠ 0) :
    Does Try.prog B w0 17 [.slice A q.length c] F (fun r L => r = .tuple #[.slice none 0 0, .int .i64 (checkQ q)] ∧ L = F) := by
  refine fn_walk Try.func17 32 rfl rfl rfl [(0, .slice A q.length c)] ⟨⟨rfl, rfl⟩, trivial⟩ ?_
  refine vc_seq ?_
  refine vc_region ?_
  refine vl_det (det_assign rfl) rfl ?_
  refine vl_det (det_assign rfl) rfl ?_
  refine vl_end [(0, _)] ⟨rfl, trivial⟩ ?_
  refine then_next ?_
  refine vc_seq ?_
  refine vc_seq ?_
  refine vc_region ?_
  refine vl_det (det_move rfl) rfl ?_
  refine vl_call co16 rfl (check_d (by first | (exact Bor.own (by repeat (first | exact List.Mem.head _ | apply List.Mem.tail))) | (repeat (first | assumption | apply Bor.cons)))) rfl ?_
  rintro _ _ ⟨rfl, hLL⟩
  obtain rfl := hLL.symm
  refine vl_det (det_assign rfl) rfl ?_
  refine vl_end [(0, _), (4, _)] ⟨rfl, rfl, trivial⟩ ?_
  refine then_next ?_
  refine vc_seq ?_
  refine vc_region ?_
  refine vl_det (det_move rfl) rfl ?_
  refine vl_det (det_neq rfl rfl) rfl ?_
  refine vl_end [(0, _), (4, _), (11, _)] ⟨rfl, rfl, rfl, trivial⟩ ?_
  refine then_next ?_
  refine vc_decideU rfl (fun h11 => ?_) (fun h11 => ?_)
  · skip
    refine vc_seq ?_
    refine vc_region ?_
    refine vl_det (det_move rfl) rfl ?_
    refine vl_det (det_assign rfl) rfl ?_
    refine vl_det (det_assign rfl) rfl ?_
    refine vl_end [(2, _), (3, _)] ⟨rfl, rfl, trivial⟩ ?_
    refine then_next ?_
    refine vc_ret ?_
    refine then_ret ?_
    refine ret2 rfl rfl rfl ?_
    exact ⟨rfl, rfl⟩
  · skip
    exfalso; exact h11 hq
theorem pneeds_ok (hb : Bor B w0 F 5 (.slice A q.length c) q.length (stepsV q)) (hc : checkQ q = 0) (hl : q.length ≤ 1000) (hr : ∀ s ∈ q, rightS s) :
    Does Try.prog B w0 17 [.slice A q.length c] F (fun r L => ∃ A' c', r = .tuple #[.slice A' (setT (rawN q)).length c', .int .i64 0] ∧ L = .own 9 1 A' (setT (rawN q)).length c' (strs (setT (rawN q))) :: F) := by
  have hrl := rawN_len q
  refine fn_walk Try.func17 32 rfl rfl rfl [(0, .slice A q.length c)] ⟨⟨rfl, rfl⟩, trivial⟩ ?_
  refine vc_seq ?_
  refine vc_region ?_
  refine vl_det (det_assign rfl) rfl ?_
  refine vl_det (det_assign rfl) rfl ?_
  refine vl_end [(0, _)] ⟨rfl, trivial⟩ ?_
  refine then_next ?_
  refine vc_seq ?_
  refine vc_seq ?_
  refine vc_region ?_
  refine vl_det (det_move rfl) rfl ?_
  refine vl_call co16 rfl (check_d (by first | (exact Bor.own (by repeat (first | exact List.Mem.head _ | apply List.Mem.tail))) | (repeat (first | assumption | apply Bor.cons)))) rfl ?_
  rintro _ _ ⟨rfl, hLL⟩
  obtain rfl := hLL.symm
  refine vl_det (det_assign rfl) rfl ?_
  refine vl_end [(0, _), (4, _)] ⟨rfl, rfl, trivial⟩ ?_
  refine then_next ?_
  refine vc_seq ?_
  refine vc_region ?_
  refine vl_det (det_move rfl) rfl ?_
  refine vl_det (det_neq rfl rfl) rfl ?_
  refine vl_end [(0, _), (4, _), (11, _)] ⟨rfl, rfl, rfl, trivial⟩ ?_
  refine then_next ?_
  refine vc_decideU rfl (fun h11 => ?_) (fun h11 => ?_)
  · skip
    exfalso; exact h11 hc
  · skip
    refine vc_skip ?_
    refine then_next ?_
    refine vc_seq ?_
    refine vc_nil_row 9 1 none ?_
    refine vc_region ?_
    refine vl_det (det_assign rfl) rfl ?_
    refine vl_end [(0, _), (5, _)] ⟨rfl, rfl, trivial⟩ ?_
    refine then_next ?_
    refine vc_seq ?_
    refine vc_seq ?_
    refine vc_region ?_
    refine vl_det (det_move rfl) rfl ?_
    refine vl_det (det_len_sl Try.underlying22 rfl) rfl ?_
    refine vl_det (det_move rfl) rfl ?_
    refine vl_end [(5, _), (13, _), (14, _), (15, _)] ⟨rfl, rfl, rfl, rfl, trivial⟩ ?_
    refine then_next ?_
    refine vc_block ?_
    refine vc_loopJ (fun zf zL zm => ∃ (k : Nat) (o : List Txt) (A5 : Option Addr) (c5 : Nat), (k ≤ q.length ∧ o = rawN (q.take k)) ∧ q.length - k = zm ∧ Sub zf [(5, .slice A5 o.length c5), (13, .slice A q.length c), (14, .int .i64 q.length), (15, .int .i64 k)] ∧ Wk zL (.own 9 1 A5 o.length c5 (strs o) :: F)) _ ⟨0, [], none, 0, ⟨Nat.zero_le _, rfl⟩, rfl, ⟨(by first | rfl | exact int_to (by omega) | exact sl_to (by omega)), (by first | rfl | exact int_to (by omega) | exact sl_to (by omega)), (by first | rfl | exact int_to (by omega) | exact sl_to (by omega)), (by first | rfl | exact int_to (by omega) | exact sl_to (by omega)), trivial⟩, .refl _⟩ ?_
    rintro _ _ _ ⟨k, o, A5, c5, ⟨hk, ho⟩, rfl, hs, hp⟩
    refine vc_weaken _ hs (vc_wk hp ?_)
    clear hs hp
    refine vc_seq ?_
    refine vc_region ?_
    refine vl_det (det_lss rfl rfl) rfl ?_
    refine vl_end [(5, _), (13, _), (14, _), (15, _), (16, _)] ⟨rfl, rfl, rfl, rfl, rfl, trivial⟩ ?_
    refine then_next ?_
    refine vc_seq ?_
    refine vc_decideU rfl (fun h16 => ?_) (fun h16 => ?_)
    · skip
      have hkl : k < q.length := by omega
      have htk := rawN_take hkl
      have hol := rawN_len (q.take k)
      rw [← ho, List.length_take] at hol
      rw [← ho] at htk
      have hcl := step_cells (q := q) (k := k) hkl
      have hw := word_iff (hr _ (getD_mem hkl sNil))
      have hone := step_one (q.getD k sNil)
      obtain ⟨⟨op, nn, wd, fr, to⟩, hs⟩ : ∃ s, s = q.getD k sNil := ⟨_, rfl⟩
      rw [← hs] at htk hcl hw hone
      simp only [StepC.cells] at hcl hw htk hone
      refine vc_skip ?_
      refine then_next ?_
      refine vc_seq ?_
      refine vc_block ?_
      refine vc_seq ?_
      refine vc_region ?_
      refine vl_det (det_indexAddr (size := 5) Try.underlying22 (by kernel_rfl) rfl rfl rfl (by omega) (by first | (exact Bor.own (by repeat (first | exact List.Mem.head _ | apply List.Mem.tail))) | (repeat (first | assumption | apply Bor.cons)))) rfl ?_
      refine vl_det (det_load_rowa 5 (by kernel_rfl) rfl (by first | (exact Bor.own (by repeat (first | exact List.Mem.head _ | apply List.Mem.tail))) | (repeat (first | assumption | apply Bor.cons))) (by omega) [.int .i64 op, .int .i64 nn, .string ⟨wd.toArray⟩, .int .u64 (fr : Int), .int .u64 (to : Int)] hcl rfl) rfl ?_
      refine vl_eff (eff_alloc_z (zv := (.agg #[.int .i64 0, .int .i64 0, .string ⟨#[]⟩, .int .u64 0, .int .u64 0])) (by kernel_rfl) rfl) rfl ?_
      rintro _ _ ⟨g7, rfl, rfl⟩
      refine vl_eff0 (eff_store_whole 5 (by kernel_rfl) rfl rfl (by first | exact bv_one _ | exact strs_one _ | exact ints_one _ _ | (simp; done) | (simp [Value.oneCell']; done) | assumption) (by repeat (first | exact .hd | apply Sel.tl)) (by first | rfl | (simp; omega) | (simp [*]; done)) (by first | rfl | (simp; omega) | (simp [*]; done))) ?_
      rintro _ _ rfl
      refine vl_end [(5, _), (7, _), (13, _), (14, _), (15, _)] ⟨rfl, rfl, rfl, rfl, rfl, trivial⟩ ?_
      refine then_next ?_
      refine vc_seq ?_
      refine vc_region ?_
      refine vl_det (det_fieldAddr_ Try.underlying38 rfl (by kernel_rfl) rfl rfl) rfl ?_
      refine vl_det (det_load_blk (by kernel_rfl) rfl (by repeat (first | exact .hd | apply Sel.tl)) rfl) rfl ?_
      refine vl_det (det_s_neq rfl rfl) rfl ?_
      refine vl_end [(5, _), (7, _), (13, _), (14, _), (15, _), (21, _)] ⟨rfl, rfl, rfl, rfl, rfl, rfl, trivial⟩ ?_
      refine then_next ?_
      refine vc_decideU rfl (fun h21 => ?_) (fun h21 => ?_)
      · skip
        rw [if_pos (hw.2 (by simpa using h21))] at htk
        refine vc_region ?_
        refine vl_det (det_move rfl) rfl ?_
        refine vl_det (det_fieldAddr_ Try.underlying38 rfl (by kernel_rfl) rfl rfl) rfl ?_
        refine vl_det (det_load_blk (by kernel_rfl) rfl (by repeat (first | exact .hd | apply Sel.tl)) rfl) rfl ?_
        refine vl_push slT39 rfl rfl rfl rfl rfl (fun _ => rfl) (by repeat (first | exact .hd | apply Sel.tl)) (by omega) (by omega) ?_
        intro _ A26 c26
        refine vl_det (det_assign rfl) rfl ?_
        refine vl_end [(5, _), (13, _), (14, _), (15, _)] ⟨rfl, rfl, rfl, rfl, trivial⟩ ?_
        refine in_normal ?_
        refine then_next ?_
        refine vc_region ?_
        refine vl_det (det_add rfl rfl (w_i64 (by omega) (by omega))) rfl ?_
        refine vl_det (det_move rfl) rfl ?_
        refine vl_end [(5, _), (13, _), (14, _), (15, _)] ⟨rfl, rfl, rfl, rfl, trivial⟩ ?_
        have hel : (o ++ [wd]).length = o.length + 1 := by simp
        refine in_loop_ ⟨_, by omega, k + 1, o ++ [wd], A26, c26, ⟨by omega, htk.symm⟩, rfl, ⟨(by first | rfl | exact int_to (by omega) | exact sl_to (by omega)), (by first | rfl | exact int_to (by omega) | exact sl_to (by omega)), (by first | rfl | exact int_to (by omega) | exact sl_to (by omega)), (by first | rfl | exact int_to (by omega) | exact sl_to (by omega)), trivial⟩, .skip (wk_own (by rw [List.length_append]; rfl) (by simp [strs]) (.refl _))⟩
      · skip
        rw [if_neg (fun h => hw.1 h (by simpa using h21)), List.append_nil] at htk
        refine vc_skip ?_
        refine in_normal ?_
        refine then_next ?_
        refine vc_region ?_
        refine vl_det (det_add rfl rfl (w_i64 (by omega) (by omega))) rfl ?_
        refine vl_det (det_move rfl) rfl ?_
        refine vl_end [(5, _), (13, _), (14, _), (15, _)] ⟨rfl, rfl, rfl, rfl, trivial⟩ ?_
        refine in_loop_ ⟨_, by omega, k + 1, o, A5, c5, ⟨by omega, htk.symm⟩, rfl, ⟨(by first | rfl | exact int_to (by omega) | exact sl_to (by omega)), (by first | rfl | exact int_to (by omega) | exact sl_to (by omega)), (by first | rfl | exact int_to (by omega) | exact sl_to (by omega)), (by first | rfl | exact int_to (by omega) | exact sl_to (by omega)), trivial⟩, .skip (.refl _)⟩
    · skip
      obtain rfl : k = q.length := by omega
      rw [List.take_length] at ho
      have hol : o.length ≤ 1000 := by rw [ho]; omega
      refine vc_exit ?_
      refine then_exit ?_
      refine loop_exit ?_
      refine in_eq ?_
      refine then_next ?_
      refine vc_seq ?_
      refine vc_region ?_
      refine vl_det (det_move rfl) rfl ?_
      refine vl_call co33 rfl (sort_d (l := o) (by omega)) rfl ?_
      rintro _ _ ⟨rfl, hLL⟩
      obtain rfl := hLL.symm
      rw [show o.length = (o.mergeSort leS).length from (List.length_mergeSort _).symm]
      refine vl_end [(5, _)] ⟨rfl, trivial⟩ ?_
      refine then_next ?_
      refine vc_seq ?_
      refine vc_region ?_
      refine vl_det (det_move rfl) rfl ?_
      refine vl_call co34 rfl (compact_d (l := o.mergeSort leS) (by rw [List.length_mergeSort]; omega)) rfl ?_
      rintro _ _ ⟨rfl, hLL⟩
      obtain rfl := hLL.symm
      refine vl_det (det_assign rfl) rfl ?_
      refine vl_det (det_assign rfl) rfl ?_
      refine vl_end [(2, _), (3, _)] ⟨rfl, rfl, trivial⟩ ?_
      refine then_next ?_
      refine vc_ret ?_
      refine ret2 rfl rfl rfl ?_
      exact ⟨A5, c5, by rw [← ho]; rfl, by rw [← ho]; rfl⟩
theorem rneeds_d (hb : Bor B w0 F 5 (.slice A q.length c) q.length (stepsV q)) (hl : q.length ≤ 1000) :
    Does Try.prog B w0 19 [.slice A q.length c] F (fun r L => ∃ A' c', r = .slice A' (setT (rawN q)).length c' ∧ L = .own 9 1 A' (setT (rawN q)).length c' (strs (setT (rawN q))) :: F) := by
  have hs0 : setT [] = [] := setT_uniq StT.nil (by simp)
  have hrl := rawN_len q
  refine fn_walk Try.func19 25 rfl rfl rfl [(0, .slice A q.length c)] ⟨⟨rfl, rfl⟩, trivial⟩ ?_
  refine vc_seq ?_
  refine vc_region ?_
  refine vl_det (det_assign rfl) rfl ?_
  refine vl_end [(0, _)] ⟨rfl, trivial⟩ ?_
  refine then_next ?_
  refine vc_seq ?_
  refine vc_nil_row 9 1 none ?_
  refine vc_region ?_
  refine vl_det (det_assign rfl) rfl ?_
  refine vl_end [(0, _), (3, _)] ⟨rfl, rfl, trivial⟩ ?_
  refine then_next ?_
  refine vc_seq ?_
  refine vc_seq ?_
  refine vc_region ?_
  refine vl_det (det_assign rfl) rfl ?_
  refine vl_end [(0, _), (3, _), (4, _)] ⟨rfl, rfl, rfl, trivial⟩ ?_
  refine then_next ?_
  refine vc_block ?_
  refine vc_loopJ (fun zf zL zm => ∃ (k : Nat) (o : List Txt) (A5 : Option Addr) (c5 : Nat), (k ≤ q.length ∧ o = setT (rawN (q.take k))) ∧ q.length - k = zm ∧ Sub zf [(0, .slice A q.length c), (3, .slice A5 o.length c5), (4, .int .i64 k)] ∧ Wk zL (.own 9 1 A5 o.length c5 (strs o) :: F)) _ ⟨0, [], none, 0, ⟨Nat.zero_le _, hs0.symm⟩, rfl, ⟨(by first | rfl | exact int_to (by omega) | exact sl_to (by omega)), (by first | rfl | exact int_to (by omega) | exact sl_to (by omega)), (by first | rfl | exact int_to (by omega) | exact sl_to (by omega)), trivial⟩, .refl _⟩ ?_
  rintro _ _ _ ⟨k, o, A5, c5, ⟨hk, ho⟩, rfl, hs, hp⟩
  refine vc_weaken _ hs (vc_wk hp ?_)
  clear hs hp
  refine vc_seq ?_
  refine vc_seq ?_
  refine vc_region ?_
  refine vl_det (det_move rfl) rfl ?_
  refine vl_det (det_move rfl) rfl ?_
  refine vl_det (det_len_sl Try.underlying22 rfl) rfl ?_
  refine vl_det (det_lss rfl rfl) rfl ?_
  refine vl_end [(0, _), (3, _), (4, _), (8, _)] ⟨rfl, rfl, rfl, rfl, trivial⟩ ?_
  refine then_next ?_
  refine vc_decideU rfl (fun h8 => ?_) (fun h8 => ?_)
  · skip
    have hkl : k < q.length := by omega
    have htk := rawN_take hkl
    have hol := rawN_len (q.take k)
    have hsl := setT_len (rawN (q.take k))
    have hoS : StT o := ho ▸ setT_st _
    rw [← ho] at hsl
    rw [List.length_take] at hol
    have hcl := step_cells (q := q) (k := k) hkl
    obtain ⟨⟨op, nn, wd, fr, to⟩, hs⟩ : ∃ s, s = q.getD k sNil := ⟨_, rfl⟩
    rw [← hs] at htk hcl
    simp only [StepC.cells] at hcl htk
    refine vc_skip ?_
    refine then_next ?_
    refine vc_seq ?_
    refine vc_block ?_
    refine vc_seq ?_
    refine vc_region ?_
    refine vl_det (det_move rfl) rfl ?_
    refine vl_det (det_move rfl) rfl ?_
    refine vl_det (det_indexAddr (size := 5) Try.underlying22 (by kernel_rfl) rfl rfl rfl (by omega) (by first | (exact Bor.own (by repeat (first | exact List.Mem.head _ | apply List.Mem.tail))) | (repeat (first | assumption | apply Bor.cons)))) rfl ?_
    refine vl_det (det_fieldAddr_row_ Try.underlying38 rfl (by kernel_rfl) rfl (by first | (exact Bor.own (by repeat (first | exact List.Mem.head _ | apply List.Mem.tail))) | (repeat (first | assumption | apply Bor.cons))) (by omega) rfl) rfl ?_
    refine vl_det (det_load_rowf (by kernel_rfl) rfl (by first | (exact Bor.own (by repeat (first | exact List.Mem.head _ | apply List.Mem.tail))) | (repeat (first | assumption | apply Bor.cons))) (by omega) (hcl 0 _ rfl)) rfl ?_
    refine vl_det (det_leq rfl rfl) rfl ?_
    refine vl_end [(0, _), (3, _), (4, _), (16, _)] ⟨rfl, rfl, rfl, rfl, trivial⟩ ?_
    refine then_next ?_
    refine vc_decideU rfl (fun h16 => ?_) (fun h16 => ?_)
    · skip
      rw [if_pos h16] at htk
      refine vc_region ?_
      refine vl_det (det_move rfl) rfl ?_
      refine vl_det (det_move rfl) rfl ?_
      refine vl_det (det_move rfl) rfl ?_
      refine vl_det (det_indexAddr (size := 5) Try.underlying22 (by kernel_rfl) rfl rfl rfl (by omega) (by first | (exact Bor.own (by repeat (first | exact List.Mem.head _ | apply List.Mem.tail))) | (repeat (first | assumption | apply Bor.cons)))) rfl ?_
      refine vl_det (det_fieldAddr_row_ Try.underlying38 rfl (by kernel_rfl) rfl (by first | (exact Bor.own (by repeat (first | exact List.Mem.head _ | apply List.Mem.tail))) | (repeat (first | assumption | apply Bor.cons))) (by omega) rfl) rfl ?_
      refine vl_det (det_load_rowf (by kernel_rfl) rfl (by first | (exact Bor.own (by repeat (first | exact List.Mem.head _ | apply List.Mem.tail))) | (repeat (first | assumption | apply Bor.cons))) (by omega) (hcl 2 _ rfl)) rfl ?_
      refine vl_call co35 rfl (rputT_d hoS (by omega) wd) rfl ?_
      rintro _ _ ⟨A23, c23, rfl, hLL⟩
      obtain rfl := hLL.symm
      refine vl_det (det_assign rfl) rfl ?_
      refine vl_end [(0, _), (3, _), (4, _)] ⟨rfl, rfl, rfl, trivial⟩ ?_
      refine in_normal ?_
      refine then_next ?_
      refine vc_region ?_
      refine vl_det (det_move rfl) rfl ?_
      refine vl_det (det_add rfl rfl (w_i64 (by omega) (by omega))) rfl ?_
      refine vl_det (det_assign rfl) rfl ?_
      refine vl_end [(0, _), (3, _), (4, _)] ⟨rfl, rfl, rfl, trivial⟩ ?_
      refine in_loop_ ⟨_, by omega, k + 1, putL o wd, A23, c23, ⟨by omega, by rw [htk, ho, putL_set]⟩, rfl, ⟨(by first | rfl | exact int_to (by omega) | exact sl_to (by omega)), (by first | rfl | exact int_to (by omega) | exact sl_to (by omega)), (by first | rfl | exact int_to (by omega) | exact sl_to (by omega)), trivial⟩, .refl _⟩
    · skip
      rw [if_neg h16, List.append_nil] at htk
      refine vc_skip ?_
      refine in_normal ?_
      refine then_next ?_
      refine vc_region ?_
      refine vl_det (det_move rfl) rfl ?_
      refine vl_det (det_add rfl rfl (w_i64 (by omega) (by omega))) rfl ?_
      refine vl_det (det_assign rfl) rfl ?_
      refine vl_end [(0, _), (3, _), (4, _)] ⟨rfl, rfl, rfl, trivial⟩ ?_
      refine in_loop_ ⟨_, by omega, k + 1, o, A5, c5, ⟨by omega, by rw [htk, ho]⟩, rfl, ⟨(by first | rfl | exact int_to (by omega) | exact sl_to (by omega)), (by first | rfl | exact int_to (by omega) | exact sl_to (by omega)), (by first | rfl | exact int_to (by omega) | exact sl_to (by omega)), trivial⟩, .refl _⟩
  · skip
    obtain rfl : k = q.length := by omega
    rw [List.take_length] at ho
    refine vc_exit ?_
    refine then_exit ?_
    refine loop_exit ?_
    refine in_eq ?_
    refine then_next ?_
    refine vc_seq ?_
    refine vc_region ?_
    refine vl_det (det_move rfl) rfl ?_
    refine vl_det (det_assign rfl) rfl ?_
    refine vl_end [(2, _)] ⟨rfl, trivial⟩ ?_
    refine then_next ?_
    refine vc_ret ?_
    refine ret1 rfl rfl ?_
    exact ⟨A5, c5, by rw [← ho], by rw [← ho]⟩
end Go.Proofs.Ytakokckokchacaa
namespace Go.Proofs.Ytakokckokchacaa
open Go.RowKit
set_option linter.unusedVariables false
set_option maxRecDepth 20000
variable {B : Nat} {w0 : World} {F L M : List Ch} {A A2 : Option Addr} {n c c2 g : Nat}
/-- a node, or a list of nodes, as_ values -/
def NV (B : Nat) (w0 : World) (L : List Ch) : Qt → List Value → Prop
  | .leaf s, us => us = [.iface 88 (.agg (StepC.cells s).toArray)]
  | .not k, us => ∃ u, us = [.iface 64 (.agg #[u])] ∧ NV B w0 L k [u]
  | .group op ks, us => ∃ A c vs, us = [.iface 67 (.agg #[.int .i64 op, .slice A ks.len c])] ∧ Bor B w0 L 1 (.slice A ks.len c) ks.len vs ∧ NV B w0 L ks vs
  | .nil, us => us = []
  | .cons k r, us => ∃ u vs, us = u :: vs ∧ NV B w0 L k [u] ∧ NV B w0 L r vs
theorem NV.mono (hs : L.Sublist M) : ∀ {t : Qt} {us : List Value}, NV B w0 L t us → NV B w0 M t us
  | .leaf s, us, h => h
  | .not k, us, ⟨u, h1, h2⟩ => ⟨u, h1, NV.mono hs h2⟩
  | .group op ks, us, ⟨A, c, vs, h1, h2, h3⟩ => ⟨A, c, vs, h1, h2.mono hs, NV.mono hs h3⟩
  | .nil, us, h => h
  | .cons k r, us, ⟨u, vs, h1, h2, h3⟩ => ⟨u, vs, h1, NV.mono hs h2, NV.mono hs h3⟩
theorem NV.perm (hs : L.Perm M) : ∀ {t : Qt} {us : List Value}, NV B w0 L t us → NV B w0 M t us
  | .leaf s, us, h => h
  | .not k, us, ⟨u, h1, h2⟩ => ⟨u, h1, NV.perm hs h2⟩
  | .group op ks, us, ⟨A, c, vs, h1, h2, h3⟩ => ⟨A, c, vs, h1, h2.perm hs, NV.perm hs h3⟩
  | .nil, us, h => h
  | .cons k r, us, ⟨u, vs, h1, h2, h3⟩ => ⟨u, vs, h1, NV.perm hs h2, NV.perm hs h3⟩
theorem NV.cons_ {x : Ch} {t : Qt} {us : List Value} (h : NV B w0 L t us) : NV B w0 (x :: L) t us := h.mono (.cons _ (.refl _))
theorem NV.one : ∀ {t : Qt} {us : List Value}, NV B w0 L t us → ∀ u ∈ us, u.oneCell' = true
  | .leaf s, us, h, u, hu => by rw [show us = _ from h, List.mem_singleton] at hu; rw [hu]; rfl
  | .not k, us, ⟨_, h1, _⟩, u, hu => by rw [h1, List.mem_singleton] at hu; rw [hu]; rfl
  | .group op ks, us, ⟨_, _, _, h1, _⟩, u, hu => by rw [h1, List.mem_singleton] at hu; rw [hu]; rfl
  | .nil, us, h, u, hu => by rw [show us = _ from h] at hu; simp at hu
  | .cons k r, us, ⟨x, vs, h1, h2, h3⟩, u, hu => by
    rw [h1] at hu
    rcases List.mem_cons.1 hu with hu | hu
    · exact NV.one h2 u (by rw [hu]; simp)
    · exact NV.one h3 u hu
/-! lists -/
abbrev NVs (B : Nat) (w0 : World) (L : List Ch) (S : List Qt) (us : List Value) : Prop := NV B w0 L (ofL S) us
theorem NVs.len : ∀ {S : List Qt} {us : List Value}, NVs B w0 L S us → us.length = S.length
  | [], us, h => by rw [show us = _ from h]; rfl
  | k :: r, us, ⟨x, vs, h1, h2, h3⟩ => by rw [h1, List.length_cons, List.length_cons, NVs.len (S := r) h3]
theorem NVs.get : ∀ {S : List Qt} {us : List Value}, NVs B w0 L S us → ∀ {k : Nat}, k < S.length → ∃ u, us[k]? = some u ∧ NV B w0 L (S.getD k .nil) [u]
  | [], us, h, k, hk => absurd hk (by simp)
  | t :: r, us, ⟨x, vs, h1, h2, h3⟩, 0, _ => ⟨x, by rw [h1]; rfl, h2⟩
  | t :: r, us, ⟨x, vs, h1, h2, h3⟩, k + 1, hk => by
    obtain ⟨u, e1, e2⟩ := NVs.get (S := r) h3 (k := k) (by simpa using hk)
    exact ⟨u, by rw [h1]; simpa using e1, by simpa using e2⟩
theorem NVs.append : ∀ {S T : List Qt} {us vs : List Value}, NVs B w0 L S us → NVs B w0 L T vs → NVs B w0 L (S ++ T) (us ++ vs)
  | [], T, us, vs, h, h' => by rw [show us = _ from h]; exact h'
  | t :: r, T, us, vs, ⟨x, ws, h1, h2, h3⟩, h' => ⟨x, ws ++ vs, by rw [h1]; rfl, h2, NVs.append (S := r) h3 h'⟩
theorem NVs.sing {t : Qt} {u : Value} (h : NV B w0 L t [u]) : NVs B w0 L [t] [u] := ⟨u, [], rfl, h, rfl⟩
theorem NVs.take : ∀ {S : List Qt} {us : List Value}, NVs B w0 L S us → ∀ k, NVs B w0 L (S.take k) (us.take k)
  | [], us, h, k => by rw [show us = _ from h]; first | (simp; done) | (simp; exact rfl)
  | t :: r, us, h, 0 => by first | (simp; done) | (simp; exact rfl)
  | t :: r, us, ⟨x, vs, h1, h2, h3⟩, k + 1 => by rw [h1]; exact ⟨x, vs.take k, rfl, h2, NVs.take (S := r) h3 k⟩
theorem NVs.drop : ∀ {S : List Qt} {us : List Value}, NVs B w0 L S us → ∀ k, NVs B w0 L (S.drop k) (us.drop k)
  | [], us, h, k => by rw [show us = _ from h]; first | (simp; done) | (simp; exact rfl)
  | t :: r, us, h, 0 => by simpa using h
  | t :: r, us, ⟨x, vs, h1, h2, h3⟩, k + 1 => by rw [h1]; exact NVs.drop (S := r) h3 k
theorem nv_group {op : Int} {l : List Qt} {u : Value} (h : NV B w0 L (.group op (ofL l)) [u]) : ∃ A c vs, u = .iface 67 (.agg #[.int .i64 op, .slice A l.length c]) ∧ Bor B w0 L 1 (.slice A l.length c) l.length vs ∧ NVs B w0 L l vs := by
  obtain ⟨A, c, vs, h1, h2, h3⟩ := h
  rw [ofL_len] at h1 h2
  exact ⟨A, c, vs, by simpa using h1, h2, h3⟩
theorem nv_group_mk {op : Int} {l : List Qt} {A : Option Addr} {c : Nat} {vs : List Value} (h2 : Bor B w0 L 1 (.slice A l.length c) l.length vs) (h3 : NVs B w0 L l vs) : NV B w0 L (.group op (ofL l)) [.iface 67 (.agg #[.int .i64 op, .slice A l.length c])] :=
  ⟨A, c, vs, by rw [ofL_len], by rw [ofL_len]; exact h2, h3⟩
/-- a method's name, off the program's table -/
noncomputable def nmOf (k : Nat) : String := match Try.prog.info? 64 with
  | some i => (match i.methods[k]? with
    | some m => m.name
    | none => "")
  | none => ""
noncomputable def nmFlat : String := nmOf 0
noncomputable def nmMeans : String := nmOf 1
noncomputable def nmSteps : String := nmOf 2
theorem nclone_d {vs : List Value} {m : Nat} (hb : Bor B w0 F 1 (.slice A m c) m vs) (h1 : ∀ u ∈ vs, u.oneCell' = true) (hn : m ≤ 1000000) :
    Does Try.prog B w0 47 [.slice A m c] F (fun r L => ∃ A' c', r = .slice A' m c' ∧ L = .own 58 1 A' m c' vs :: F) := by
  rcases A with _ | ad
  · refine Does.bor hb fun _ hl => ?_
    have hnil : m = 0 → vs = [] := fun h0 => List.eq_nil_of_length_eq_zero (by rw [hl, h0])
    refine fun w hw => ?_
    obtain ⟨A', c', hv, hc, hl2, hr⟩ := hb w hw
    injection hv with q1 q2 q3
    subst q1
    have h0 : m = 0 := by
      rcases Nat.eq_zero_or_pos m with h | h
      · exact h
      · obtain ⟨ad, e, _⟩ := hr h; cases e
    subst h0
    rw [hnil rfl]
    refine (show Does Try.prog B w0 47 [.slice none 0 c] F (fun r L => ∃ A' c', r = .slice A' 0 c' ∧ L = .own 58 1 A' 0 c' [] :: F) from ?_) w hw
    refine fn_walk Try.func47 8 rfl rfl rfl [(0, .slice none 0 c)] ⟨⟨rfl, rfl⟩, trivial⟩ ?_
    refine vc_seq ?_
    refine vc_region ?_
    refine vl_det (det_assign rfl) rfl ?_
    refine vl_end [(0, _)] ⟨rfl, trivial⟩ ?_
    refine then_next ?_
    refine vc_seq ?_
    refine vc_seq ?_
    refine vc_region ?_
    refine vl_det (det_move rfl) rfl ?_
    refine vl_det (det_sl_nil Try.underlying65 rfl rfl) rfl ?_
    refine vl_end [(0, _), (4, _)] ⟨rfl, rfl, trivial⟩ ?_
    refine then_next ?_
    refine vc_cond_t rfl ?_
    refine vc_seq ?_
    refine vc_region ?_
    refine vl_det (det_assign rfl) rfl ?_
    refine vl_end [(2, _)] ⟨rfl, trivial⟩ ?_
    refine then_next ?_
    refine vc_ret ?_
    refine then_ret ?_
    refine ret_nil_row 58 1 none ?_
    refine ret1 rfl rfl ?_
    exact ⟨none, 0, rfl, rfl⟩
  · skip
    refine fn_walk Try.func47 8 rfl rfl rfl [(0, .slice (some ad) m c)] ⟨⟨rfl, rfl⟩, trivial⟩ ?_
    refine vc_seq ?_
    refine vc_region ?_
    refine vl_det (det_assign rfl) rfl ?_
    refine vl_end [(0, _)] ⟨rfl, trivial⟩ ?_
    refine then_next ?_
    refine vc_seq ?_
    refine vc_seq ?_
    refine vc_region ?_
    refine vl_det (det_move rfl) rfl ?_
    refine vl_det (det_sl_nil Try.underlying65 rfl rfl) rfl ?_
    refine vl_end [(0, _), (4, _)] ⟨rfl, rfl, trivial⟩ ?_
    refine then_next ?_
    refine vc_cond_f rfl ?_
    refine vc_skip ?_
    refine then_next ?_
    refine vc_seq ?_
    refine vc_region ?_
    refine vl_eff (eff_build_empty slT65) rfl ?_
    rintro _ _ ⟨A5, rfl, rfl⟩
    refine vl_det (det_move rfl) rfl ?_
    refine vl_eff (eff_app slT65 rfl (by repeat (first | exact .hd | apply Sel.tl)) rfl (by first | (exact Bor.own (by repeat (first | exact List.Mem.head _ | apply List.Mem.tail))) | (repeat (first | assumption | apply Bor.cons))) h1 (by omega) (by omega)) rfl ?_
    rintro _ _ ⟨A7, c7, rfl, rfl⟩
    refine vl_det (det_assign rfl) rfl ?_
    refine vl_end [(2, _)] ⟨rfl, trivial⟩ ?_
    refine then_next ?_
    refine vc_ret ?_
    rw [Nat.zero_add, List.nil_append]
    refine ret1 rfl rfl ?_
    exact ⟨_, _, rfl, rfl⟩
/-! steps -/
theorem steps_leaf (s : StepC) : Does Try.prog B w0 116 [.agg (StepC.cells s).toArray] F (fun r L => ∃ A c, r = .slice A 1 c ∧ L = .own 38 5 A 1 c (stepsV [s]) :: F) := by
  refine fn_walk Try.func116 6 rfl rfl rfl [(0, .agg (StepC.cells s).toArray)] ⟨⟨rfl, rfl⟩, trivial⟩ ?_
  refine vc_seq ?_
  refine vc_region ?_
  refine vl_eff (eff_box rfl rfl) rfl ?_
  rintro _ _ ⟨g1, rfl, rfl⟩
  refine vl_det (det_assign rfl) rfl ?_
  refine vl_end [(1, _)] ⟨rfl, trivial⟩ ?_
  refine then_next ?_
  refine vc_seq ?_
  refine vc_region ?_
  refine vl_det (det_fieldAddr_ Try.underlying88 rfl (by kernel_rfl) rfl rfl) rfl ?_
  refine vl_det (det_load_whole 5 (by kernel_rfl) rfl (by repeat (first | exact .hd | apply Sel.tl)) rfl) rfl ?_
  refine vl_eff (eff_build1s (us := StepC.cells s) slT22 rfl rfl rfl (by omega)) rfl ?_
  rintro _ _ ⟨A5, rfl, rfl⟩
  refine vl_det (det_assign rfl) rfl ?_
  refine vl_end [(2, _)] ⟨rfl, trivial⟩ ?_
  refine then_next ?_
  refine vc_ret ?_
  refine ret_wk (L' := .own 38 5 A5 1 1 (stepsV [s]) :: F) (wk_own rfl (steps_sing s).symm (.skip (.refl _))) ?_
  refine ret1 rfl rfl ?_
  exact ⟨A5, 1, rfl, rfl⟩
def StQ (B : Nat) (w0 : World) (t : Qt) : Prop := t.st.length ≤ 1000000 → ∀ (L : List Ch) (u : Value), NV B w0 L t [u] → DoesM Try.prog B w0 u nmSteps [] L (fun r L' => ∃ A c, r = .slice A t.st.length c ∧ L' = .own 38 5 A t.st.length c (stepsV t.st) :: L)
theorem steps_not {k : Qt} {u : Value} (hk : NV B w0 F k [u]) (hl : k.st.length ≤ 1000000) (ih : StQ B w0 k) : Does Try.prog B w0 105 [.agg #[u]] F (fun r L => ∃ A c, r = .slice A (Qt.not k).st.length c ∧ L = .own 38 5 A (Qt.not k).st.length c (stepsV (Qt.not k).st) :: F) := by
  have h1 := hk.one u (by simp)
  have hls : (Qt.not k).st.length = k.st.length + 1 := by simp [Qt.st]
  have hv : stepsV (Qt.not k).st = stepsV k.st ++ StepC.cells (5, 0, [], 0, 0) := by show stepsV (k.st ++ _) = _; rw [steps_app, steps_sing]
  rw [hls, hv]
  refine fn_walk Try.func105 9 rfl rfl rfl [(0, .agg #[u])] ⟨⟨rfl, rfl⟩, trivial⟩ ?_
  refine vc_seq ?_
  refine vc_region ?_
  refine vl_eff (eff_box rfl rfl) rfl ?_
  rintro _ _ ⟨g1, rfl, rfl⟩
  refine vl_det (det_assign rfl) rfl ?_
  refine vl_end [(1, _)] ⟨rfl, trivial⟩ ?_
  refine then_next ?_
  refine vc_seq ?_
  refine vc_region ?_
  refine vl_det (det_fieldAddr_ Try.underlying64 rfl (by kernel_rfl) rfl rfl) rfl ?_
  refine vl_det (det_load_blk (by kernel_rfl) rfl (by repeat (first | exact .hd | apply Sel.tl)) rfl) rfl ?_
  refine vl_invoke (by kernel_rfl) rfl rfl (ih hl _ u hk.cons_) rfl ?_
  rintro _ _ ⟨A5, c5, rfl, hLL⟩
  obtain rfl := hLL.symm
  refine vl_det (det_buildp [(0, _)] [.int .i64 0, .int .i64 0, .string ⟨#[]⟩, .int .u64 0, .int .u64 0] [0] [_, _, _, _, _] rfl rfl (by kernel_rfl)) rfl ?_
  refine vl_pushs slT22 rfl rfl rfl (by omega) (by first | exact bv_one _ | exact strs_one _ | exact ints_one _ _ | (simp; done) | (simp [Value.oneCell']; done) | assumption) rfl rfl rfl (fun _ => rfl) (by repeat (first | exact .hd | apply Sel.tl)) (by omega) (by omega) ?_
  intro _ A8 c8
  refine vl_det (det_assign rfl) rfl ?_
  refine vl_end [(2, _)] ⟨rfl, trivial⟩ ?_
  refine then_next ?_
  refine vc_ret ?_
  refine ret_wk (L' := .own 38 5 A8 (k.st.length + 1) c8 (stepsV k.st ++ StepC.cells (5, 0, [], 0, 0)) :: F) (.cons (.skip (.refl _))) ?_
  refine ret1 rfl rfl ?_
  exact ⟨A8, c8, rfl, rfl⟩
theorem steps_group {op : Int} {l : List Qt} {vs : List Value} (hb : Bor B w0 F 1 (.slice A l.length c) l.length vs) (hl : NVs B w0 F l vs) (hst : (l.flatMap Qt.st).length + 1 ≤ 1000000) (hn : l.length ≤ 1000000) (ih : ∀ t ∈ l, StQ B w0 t) :
    Does Try.prog B w0 108 [.agg #[.int .i64 op, .slice A l.length c]] F (fun r L => ∃ A' c', r = .slice A' (Qt.group op (ofL l)).st.length c' ∧ L = .own 38 5 A' (Qt.group op (ofL l)).st.length c' (stepsV (Qt.group op (ofL l)).st) :: F) := by
  have hS : (Qt.group op (ofL l)).st = l.flatMap Qt.st ++ [(op, (l.length : Int), [], 0, 0)] := by show (ofL l).st ++ _ = _; rw [ofL_st, ofL_len]
  have hls : (Qt.group op (ofL l)).st.length = (l.flatMap Qt.st).length + 1 := by rw [hS]; simp
  have hv : stepsV (Qt.group op (ofL l)).st = stepsV (l.flatMap Qt.st) ++ StepC.cells (op, (l.length : Int), [], 0, 0) := by rw [hS, steps_app, steps_sing]
  rw [hls, hv]
  have htk : ∀ i, i < l.length → (l.take (i + 1)).flatMap Qt.st = (l.take i).flatMap Qt.st ++ (l.getD i .nil).st := fun i hi => by
    rw [take_getD hi .nil, List.flatMap_append, List.flatMap_singleton]
  have hle : ∀ i, i ≤ l.length → ((l.take i).flatMap Qt.st).length ≤ (l.flatMap Qt.st).length := fun i hi => by
    conv => rhs; rw [← List.take_append_drop i l, List.flatMap_append, List.length_append]
    omega
  refine fn_walk Try.func108 27 rfl rfl rfl [(0, .agg #[.int .i64 op, .slice A l.length c])] ⟨⟨rfl, rfl⟩, trivial⟩ ?_
  refine vc_seq ?_
  refine vc_region ?_
  refine vl_eff (eff_box rfl rfl) rfl ?_
  rintro _ _ ⟨g1, rfl, rfl⟩
  refine vl_det (det_assign rfl) rfl ?_
  refine vl_end [(1, _)] ⟨rfl, trivial⟩ ?_
  refine then_next ?_
  refine vc_seq ?_
  refine vc_region ?_
  refine vl_det (det_assign rfl) rfl ?_
  refine vl_end [(1, _), (3, _)] ⟨rfl, rfl, trivial⟩ ?_
  refine then_next ?_
  refine vc_seq ?_
  refine vc_seq ?_
  refine vc_nil_row 38 5 none ?_
  refine vc_region ?_
  refine vl_det (det_fieldAddr_ Try.underlying67 rfl (by kernel_rfl) rfl rfl) rfl ?_
  refine vl_det (det_load_blk (by kernel_rfl) rfl (by repeat (first | exact .hd | apply Sel.tl)) rfl) rfl ?_
  refine vl_det (det_len_sl Try.underlying65 rfl) rfl ?_
  refine vl_det (det_move rfl) rfl ?_
  refine vl_end [(1, _), (3, _), (7, _), (8, _), (9, _)] ⟨rfl, rfl, rfl, rfl, rfl, trivial⟩ ?_
  refine then_next ?_
  refine vc_block ?_
  refine vc_loopJ (fun zf zL zm => ∃ (i : Nat) (A3 : Option Addr) (c3 : Nat), (i ≤ l.length) ∧ l.length - i = zm ∧ Sub zf [(1, .pointer (some ⟨g1, 0, none⟩)), (3, .slice A3 ((l.take i).flatMap Qt.st).length c3), (7, .slice A l.length c), (8, .int .i64 l.length), (9, .int .i64 i)] ∧ Wk zL (.own 38 5 A3 ((l.take i).flatMap Qt.st).length c3 (stepsV ((l.take i).flatMap Qt.st)) :: .blk g1 67 [.int .i64 op, .slice A l.length c] :: F)) _ ⟨0, none, 0, Nat.zero_le _, rfl, ⟨(by first | rfl | exact int_to (by omega) | exact sl_to (by omega)), (by first | rfl | exact int_to (by omega) | exact sl_to (by omega)), (by first | rfl | exact int_to (by omega) | exact sl_to (by omega)), (by first | rfl | exact int_to (by omega) | exact sl_to (by omega)), (by first | rfl | exact int_to (by omega) | exact sl_to (by omega)), trivial⟩, .refl _⟩ ?_
  rintro _ _ _ ⟨i, A3, c3, hi, rfl, hs, hp⟩
  refine vc_weaken _ hs (vc_wk hp ?_)
  clear hs hp
  refine vc_seq ?_
  refine vc_region ?_
  refine vl_det (det_lss rfl rfl) rfl ?_
  refine vl_end [(1, _), (3, _), (7, _), (8, _), (9, _), (10, _)] ⟨rfl, rfl, rfl, rfl, rfl, rfl, trivial⟩ ?_
  refine then_next ?_
  refine vc_seq ?_
  refine vc_decideU rfl (fun h10 => ?_) (fun h10 => ?_)
  · skip
    obtain ⟨u, hu, hku⟩ := hl.get (k := i) (by omega)
    have hti := htk i (by omega)
    have hl1 := hle i (by omega)
    have hl2 := hle (i + 1) (by omega)
    rw [hti, List.length_append] at hl2
    have hih := ih _ (getD_mem (show i < l.length by omega) .nil)
    obtain ⟨k, hk⟩ : ∃ k, k = l.getD i .nil := ⟨_, rfl⟩
    rw [← hk] at hku hti hl2 hih
    have hu1 : vs[i * 1]? = some u := by rw [Nat.mul_one]; exact hu
    refine vc_skip ?_
    refine then_next ?_
    refine vc_seq ?_
    refine vc_block ?_
    refine vc_seq ?_
    refine vc_region ?_
    refine vl_det (det_indexAddr (size := 1) Try.underlying65 (by kernel_rfl) rfl rfl rfl (by omega) (by first | (exact Bor.own (by repeat (first | exact List.Mem.head _ | apply List.Mem.tail))) | (repeat (first | assumption | apply Bor.cons)))) rfl ?_
    refine vl_det (det_load_row (by kernel_rfl) rfl (by first | (exact Bor.own (by repeat (first | exact List.Mem.head _ | apply List.Mem.tail))) | (repeat (first | assumption | apply Bor.cons))) (by omega) hu1) rfl ?_
    refine vl_det (det_assign rfl) rfl ?_
    refine vl_end [(1, _), (3, _), (5, _), (7, _), (8, _), (9, _)] ⟨rfl, rfl, rfl, rfl, rfl, rfl, trivial⟩ ?_
    refine then_next ?_
    refine vc_region ?_
    refine vl_det (det_move rfl) rfl ?_
    refine vl_det (det_move rfl) rfl ?_
    refine vl_invoke (by kernel_rfl) rfl rfl (hih (by omega) _ u hku.cons_.cons_) rfl ?_
    rintro _ _ ⟨A15, c15, rfl, hLL⟩
    obtain rfl := hLL.symm
    refine vl_eff (eff_app slT22 rfl (by repeat (first | exact .hd | apply Sel.tl)) rfl (by first | (exact Bor.own (by repeat (first | exact List.Mem.head _ | apply List.Mem.tail))) | (repeat (first | assumption | apply Bor.cons))) (steps_one _) (by omega) (by omega)) rfl ?_
    rintro _ _ ⟨A16, c16, rfl, rfl⟩
    refine vl_det (det_assign rfl) rfl ?_
    refine vl_end [(1, _), (3, _), (7, _), (8, _), (9, _)] ⟨rfl, rfl, rfl, rfl, rfl, trivial⟩ ?_
    refine in_normal ?_
    refine then_next ?_
    refine vc_region ?_
    refine vl_det (det_add rfl rfl (w_i64 (by omega) (by omega))) rfl ?_
    refine vl_det (det_move rfl) rfl ?_
    refine vl_end [(1, _), (3, _), (7, _), (8, _), (9, _)] ⟨rfl, rfl, rfl, rfl, rfl, trivial⟩ ?_
    have hel : ((l.take i).flatMap Qt.st).length + k.st.length = ((l.take (i + 1)).flatMap Qt.st).length := by rw [hti, List.length_append]
    refine in_loop_ ⟨_, by omega, i + 1, A16, c16, by omega, rfl, ⟨(by first | rfl | exact int_to (by omega) | exact sl_to (by omega)), (by first | rfl | exact int_to (by omega) | exact sl_to (by omega)), (by first | rfl | exact int_to (by omega) | exact sl_to (by omega)), (by first | rfl | exact int_to (by omega) | exact sl_to (by omega)), (by first | rfl | exact int_to (by omega) | exact sl_to (by omega)), trivial⟩, .skip (wk_own hel (by rw [hti, steps_app]) (.refl _))⟩
  · skip
    obtain rfl : i = l.length := by omega
    rw [List.take_length]
    refine vc_exit ?_
    refine then_exit ?_
    refine loop_exit ?_
    refine in_eq ?_
    refine then_next ?_
    refine vc_seq ?_
    refine vc_region ?_
    refine vl_det (det_move rfl) rfl ?_
    refine vl_det (det_fieldAddr_ Try.underlying67 rfl (by kernel_rfl) rfl rfl) rfl ?_
    refine vl_det (det_load_blk (by kernel_rfl) rfl (by repeat (first | exact .hd | apply Sel.tl)) rfl) rfl ?_
    refine vl_det (det_fieldAddr_ Try.underlying67 rfl (by kernel_rfl) rfl rfl) rfl ?_
    refine vl_det (det_load_blk (by kernel_rfl) rfl (by repeat (first | exact .hd | apply Sel.tl)) rfl) rfl ?_
    refine vl_det (det_len_sl Try.underlying65 rfl) rfl ?_
    refine vl_det (det_buildp [(0, _), (1, _)] [.int .i64 0, .int .i64 0, .string ⟨#[]⟩, .int .u64 0, .int .u64 0] [0, 1] [_, _, _, _, _] rfl rfl (by kernel_rfl)) rfl ?_
    refine vl_pushs slT22 rfl rfl rfl (by omega) (by first | exact bv_one _ | exact strs_one _ | exact ints_one _ _ | (simp; done) | (simp [Value.oneCell']; done) | assumption) rfl rfl rfl (fun _ => rfl) (by repeat (first | exact .hd | apply Sel.tl)) (by omega) (by omega) ?_
    intro _ A26 c26
    refine vl_det (det_assign rfl) rfl ?_
    refine vl_end [(2, _)] ⟨rfl, trivial⟩ ?_
    refine then_next ?_
    refine vc_ret ?_
    refine ret_wk (L' := .own 38 5 A26 ((l.flatMap Qt.st).length + 1) c26 (stepsV (l.flatMap Qt.st) ++ StepC.cells (op, (l.length : Int), [], 0, 0)) :: F) (.cons (.skip (.refl _))) ?_
    refine ret1 rfl rfl ?_
    exact ⟨A26, c26, rfl, rfl⟩
theorem st_pos {t : Qt} (h : t.isN) : 1 ≤ t.st.length := List.length_pos_iff.2 (st_ne h)
theorem flat_len {l : List Qt} (h : ∀ t ∈ l, t.isN ∧ t.wf) : l.length ≤ (l.flatMap Qt.st).length := by
  induction l with
  | nil => simp
  | cons k r ih =>
    have h1 := st_pos (h k (by simp)).1
    have h2 := ih fun t ht => h t (by simp [ht])
    rw [List.flatMap_cons, List.length_append, List.length_cons]; omega
theorem mem_flat_len {l : List Qt} {t : Qt} (h : t ∈ l) : t.st.length ≤ (l.flatMap Qt.st).length := by
  induction l with
  | nil => simp at h
  | cons k r ih =>
    rw [List.flatMap_cons, List.length_append]
    rcases List.mem_cons.1 h with h | h
    · rw [h]; omega
    · have := ih h; omega
theorem steps_m {t : Qt} (h1 : t.isN) (h2 : t.wf) : StQ B w0 t := by
  refine (Qt.ind (P := fun t => StQ B w0 t) (fun s h1 h2 => ?_) (fun k h1 h2 ih => ?_) (fun op l h1 h2 h3 ih => ?_) t h2).1 h1
  · intro hl L u hu
    obtain rfl : u = _ := by simpa using (show [u] = _ from hu)
    exact ⟨_, _, _, _, rfl, fun w => by kernel_rfl, co116, steps_leaf s⟩
  · intro hl L u hu
    obtain ⟨x, hx, hk⟩ := hu
    obtain rfl : u = _ := by simpa using hx
    have hl' : k.st.length ≤ 1000000 := by simp [Qt.st] at hl; omega
    exact ⟨_, _, _, _, rfl, fun w => by kernel_rfl, co105, steps_not hk hl' ih⟩
  · intro hl L u hu
    obtain ⟨A, c, vs, rfl, hb, hv⟩ := nv_group hu
    have hS : (Qt.group op (ofL l)).st = l.flatMap Qt.st ++ [(op, (l.length : Int), [], 0, 0)] := by show (ofL l).st ++ _ = _; rw [ofL_st, ofL_len]
    have hl' : (l.flatMap Qt.st).length + 1 ≤ 1000000 := by rw [hS] at hl; simpa using hl
    have hn := flat_len h3
    exact ⟨_, _, _, _, rfl, fun w => by kernel_rfl, co108, steps_group hb hv hl' (by omega) ih⟩
end Go.Proofs.Ytakokckokchacaa
namespace Go.Proofs.Ytakokckokchacaa
open Go.RowKit
set_option linter.unusedVariables false
set_option maxRecDepth 20000
def isG : Qt → Bool
  | .group _ _ => true
  | _ => false
def gop : Qt → Int
  | .group op _ => op
  | _ => 0
def gks : Qt → List Qt
  | .group _ ks => toL ks
  | _ => []
def isNt : Qt → Bool
  | .not _ => true
  | _ => false
def nkid : Qt → Qt
  | .not k => k
  | _ => .nil
def notT (x : Qt) : Qt := if isNt x = true then nkid x else .not x
/-- a node is put behind those that there are, if its like isn't there -/
def addQ (S : List Qt) (t : Qt) : List Qt := if S.any (fun z => decide (z.st = t.st)) = true then S else S ++ [t]
def gath (op : Int) (S : List Qt) (x : Qt) : List Qt := if isG x = true ∧ gop x = op then (gks x).foldl addQ S else addQ S x
def mkG (op : Int) (S : List Qt) : Qt := if S.length = 1 then S.getD 0 .nil else .group op (ofL S)
def flatT : Qt → Qt
  | .leaf s => .leaf s
  | .not k => notT (flatT k)
  | .group op ks => mkG op ((toL (flatT ks)).foldl (gath op) [])
  | .nil => .nil
  | .cons k r => .cons (flatT k) (flatT r)
theorem flatT_ofL : ∀ l : List Qt, toL (flatT (ofL l)) = l.map flatT
  | [] => rfl
  | k :: r => by simp [ofL, flatT, toL, flatT_ofL r]
theorem flatT_group (op : Int) (l : List Qt) : flatT (.group op (ofL l)) = mkG op ((l.map flatT).foldl (gath op) []) := by
  show mkG op ((toL (flatT (ofL l))).foldl (gath op) []) = _
  rw [flatT_ofL]
theorem isG_iff {x : Qt} (hw : x.wf) : isG x = true → ∃ op l, x = .group op (ofL l) ∧ (op = 6 ∨ op = 7) ∧ 2 ≤ l.length ∧ ∀ t ∈ l, t.isN ∧ t.wf := by
  cases x with
  | group op ks => intro _; exact ⟨op, toL ks, by rw [ofL_toL hw.2.2.1 hw.2.2.2], hw.1, by rw [toL_len]; exact hw.2.1, toL_wf hw.2.2.2⟩
  | _ => intro h; cases h
theorem gks_group (op : Int) (l : List Qt) : gks (.group op (ofL l)) = l := toL_ofL l
theorem gks_wf {x : Qt} (hw : x.wf) : ∀ t ∈ gks x, t.isN ∧ t.wf := by
  cases x with
  | group op ks => exact toL_wf hw.2.2.2
  | _ => intro t ht; simp [gks] at ht
def szL (S : List Qt) : Nat := (S.flatMap Qt.st).length
theorem szL_app (S T : List Qt) : szL (S ++ T) = szL S + szL T := by unfold szL; rw [List.flatMap_append, List.length_append]
theorem szL_one (t : Qt) : szL [t] = t.st.length := by unfold szL; rw [List.flatMap_singleton]
theorem szL_cons (t : Qt) (S : List Qt) : szL (t :: S) = t.st.length + szL S := by unfold szL; rw [List.flatMap_cons, List.length_append]
theorem szL_gks {x : Qt} (hw : x.wf) (hn : x.isN) : szL (gks x) ≤ x.st.length := by
  cases x with
  | group op ks =>
    show ((toL ks).flatMap Qt.st).length ≤ (ks.st ++ _).length
    rw [toL_st hw.2.2.1 hw.2.2.2, List.length_append]; omega
  | _ => simp [gks, szL]
theorem addQ_mem {S : List Qt} {x t : Qt} (h : t ∈ addQ S x) : t ∈ S ∨ t = x := by
  unfold addQ at h
  split at h
  · exact .inl h
  · rcases List.mem_append.1 h with h | h
    · exact .inl h
    · exact .inr (List.mem_singleton.1 h)
theorem addQ_sz (S : List Qt) (x : Qt) : szL (addQ S x) ≤ szL S + x.st.length := by
  unfold addQ
  split
  · omega
  · rw [szL_app, szL_one]; omega
theorem addQ_ne (S : List Qt) (x : Qt) : addQ S x ≠ [] := by
  unfold addQ
  split
  · rename_i h; intro e; rw [e] at h; simp at h
  · simp
theorem fold_mem : ∀ {l S : List Qt} {t : Qt}, t ∈ l.foldl addQ S → t ∈ S ∨ t ∈ l
  | [], S, t, h => .inl h
  | x :: r, S, t, h => by
    rcases fold_mem (l := r) h with h | h
    · rcases addQ_mem h with h | h
      · exact .inl h
      · exact .inr (by simp [h])
    · exact .inr (by simp [h])
theorem fold_sz : ∀ (l S : List Qt), szL (l.foldl addQ S) ≤ szL S + szL l
  | [], S => Nat.le_add_right _ _
  | x :: r, S => by
    have h1 := fold_sz r (addQ S x)
    have h2 := addQ_sz S x
    rw [List.foldl_cons, szL_cons]; omega
theorem fold_ne : ∀ {l S : List Qt}, S ≠ [] → l.foldl addQ S ≠ []
  | [], S, h => h
  | x :: r, S, h => fold_ne (l := r) (addQ_ne S x)
theorem gath_mem {op : Int} {S : List Qt} {x t : Qt} (h : t ∈ gath op S x) : t ∈ S ∨ (t = x ∨ t ∈ gks x) := by
  unfold gath at h
  split at h
  · rcases fold_mem h with h | h
    · exact .inl h
    · exact .inr (.inr h)
  · rcases addQ_mem h with h | h
    · exact .inl h
    · exact .inr (.inl h)
theorem gath_sz {op : Int} {S : List Qt} {x : Qt} (hw : x.wf) (hn : x.isN) : szL (gath op S x) ≤ szL S + x.st.length := by
  unfold gath
  split
  · have h1 := fold_sz (gks x) S
    have h2 := szL_gks hw hn
    omega
  · exact addQ_sz S x
theorem gath_ne {op : Int} {S : List Qt} {x : Qt} (hw : x.wf) : gath op S x ≠ [] := by
  unfold gath
  split
  · rename_i h
    obtain ⟨o, l, rfl, _, h2, _⟩ := isG_iff hw h.1
    rw [gks_group]
    match l, h2 with
    | a :: r, _ => exact fold_ne (l := r) (addQ_ne S a)
  · exact addQ_ne S x
theorem gath_wf {op : Int} {S : List Qt} {x : Qt} (hS : ∀ t ∈ S, t.isN ∧ t.wf) (hn : x.isN) (hw : x.wf) : ∀ t ∈ gath op S x, t.isN ∧ t.wf := fun t ht => by
  rcases gath_mem ht with h | h | h
  · exact hS t h
  · rw [h]; exact ⟨hn, hw⟩
  · exact gks_wf hw t h
theorem gaths_wf {op : Int} : ∀ (l S : List Qt), (∀ t ∈ l, t.isN ∧ t.wf) → (∀ t ∈ S, t.isN ∧ t.wf) → ∀ t ∈ l.foldl (gath op) S, t.isN ∧ t.wf
  | [], S, _, hS => hS
  | x :: r, S, hl, hS => gaths_wf r (gath op S x) (fun t ht => hl t (by simp [ht])) (gath_wf hS (hl x (by simp)).1 (hl x (by simp)).2)
theorem gaths_sz {op : Int} : ∀ (l S : List Qt), (∀ t ∈ l, t.isN ∧ t.wf) → szL (l.foldl (gath op) S) ≤ szL S + szL l
  | [], S, _ => Nat.le_add_right _ _
  | x :: r, S, hl => by
    have h1 := gaths_sz (op := op) r (gath op S x) (fun t ht => hl t (by simp [ht]))
    have h2 := gath_sz (op := op) (S := S) (hl x (by simp)).2 (hl x (by simp)).1
    rw [List.foldl_cons, szL_cons]; omega
theorem gaths_ne {op : Int} {l : List Qt} (h : l ≠ []) (hl : ∀ t ∈ l, t.isN ∧ t.wf) : l.foldl (gath op) [] ≠ [] := by
  obtain ⟨a, x, rfl⟩ : ∃ a x, l = a ++ [x] := by
    rcases List.eq_nil_or_concat l with e | ⟨a, x, e⟩
    · exact absurd e h
    · exact ⟨a, x, by rw [e, List.concat_eq_append]⟩
  rw [List.foldl_append]
  exact gath_ne (hl x (by simp)).2
theorem gaths_dep {op : Int} {m : Nat} : ∀ (l S : List Qt), (∀ t ∈ l, t.wf ∧ t.isN ∧ t.dep ≤ m) → (∀ t ∈ S, t.dep ≤ m) → ∀ t ∈ l.foldl (gath op) S, t.dep ≤ m
  | [], S, _, hS => hS
  | x :: r, S, hl, hS => gaths_dep r (gath op S x) (fun t ht => hl t (by simp [ht])) fun t ht => by
    obtain ⟨h1, h2, h3⟩ := hl x (by simp)
    rcases gath_mem ht with h | h | h
    · exact hS t h
    · rw [h]; exact h3
    · cases x with
      | group o ks =>
        have h4 := toL_dep h1.2.2.1 h1.2.2.2
        have h5 : ∀ (l : List Nat) (y : Nat), y ∈ l → y ≤ maxL l := by
          intro l
          induction l with
          | nil => intro y hy; simp at hy
          | cons a r ih =>
            intro y hy
            rcases List.mem_cons.1 hy with e | hy
            · rw [e]; simp only [maxL]; omega
            · have := ih y hy; simp only [maxL]; omega
        have h6 := h5 _ _ (List.mem_map_of_mem (f := Qt.dep) (show t ∈ toL ks from h))
        have h7 : (Qt.group o ks).dep = ks.dep + 1 := rfl
        omega
      | _ => simp [gks] at h
theorem flatT_ok (t : Qt) (hw : t.wf) : (t.isN → (flatT t).isN ∧ (flatT t).wf ∧ (flatT t).st.length ≤ t.st.length ∧ (flatT t).dep ≤ t.dep) ∧ (∀ k ∈ toL t, (flatT k).isN ∧ (flatT k).wf ∧ (flatT k).st.length ≤ k.st.length ∧ (flatT k).dep ≤ k.dep) := by
  refine Qt.ind (P := fun t => (flatT t).isN ∧ (flatT t).wf ∧ (flatT t).st.length ≤ t.st.length ∧ (flatT t).dep ≤ t.dep) (fun s h1 h2 => ⟨trivial, ⟨h1, h2⟩, Nat.le_refl _, Nat.le_refl _⟩) (fun k h1 h2 ih => ?_) (fun op l h1 h2 h3 ih => ?_) t hw
  · obtain ⟨i1, i2, i3, i4⟩ := ih
    show (notT (flatT k)).isN ∧ (notT (flatT k)).wf ∧ (notT (flatT k)).st.length ≤ (k.st ++ _).length ∧ (notT (flatT k)).dep ≤ k.dep + 1
    rw [List.length_append]
    generalize flatT k = x at *
    unfold notT
    split
    · cases x with
      | not j =>
        have h5 : (Qt.not j).st.length = j.st.length + 1 := by simp [Qt.st]
        have h6 : (Qt.not j).dep = j.dep + 1 := rfl
        exact ⟨i2.1, i2.2, by show j.st.length ≤ _; omega, by show j.dep ≤ _; omega⟩
      | _ => rename_i h; cases h
    · exact ⟨trivial, ⟨i1, i2⟩, by simp [Qt.st]; omega, by show x.dep + 1 ≤ _; omega⟩
  · rw [flatT_group]
    have hl : ∀ t ∈ l.map flatT, t.isN ∧ t.wf := fun t ht => by
      obtain ⟨k, hk, rfl⟩ := List.mem_map.1 ht
      exact ⟨(ih k hk).1, (ih k hk).2.1⟩
    have hsz : szL (l.map flatT) ≤ szL l := by
      clear h2 h3 hl
      induction l with
      | nil => exact Nat.le_refl _
      | cons k r ihr =>
        have h4 := ihr (fun t ht => ih t (by simp [ht]))
        have h5 := (ih k (by simp)).2.2.1
        rw [List.map_cons, szL_cons, szL_cons]; omega
    have hdp : ∀ t ∈ l.map flatT, t.wf ∧ t.isN ∧ t.dep ≤ maxL (l.map Qt.dep) := fun t ht => by
      obtain ⟨k, hk, rfl⟩ := List.mem_map.1 ht
      refine ⟨(ih k hk).2.1, (ih k hk).1, Nat.le_trans (ih k hk).2.2.2 ?_⟩
      have h5 : ∀ (l : List Nat) (y : Nat), y ∈ l → y ≤ maxL l := by
        intro l
        induction l with
        | nil => intro y hy; simp at hy
        | cons a r ih =>
          intro y hy
          rcases List.mem_cons.1 hy with e | hy
          · rw [e]; simp only [maxL]; omega
          · have := ih y hy; simp only [maxL]; omega
      exact h5 _ _ (List.mem_map_of_mem hk)
    have g1 := gaths_wf (op := op) (l.map flatT) [] hl (by simp)
    have g2 := gaths_sz (op := op) (l.map flatT) [] hl
    have g3 := gaths_ne (op := op) (l := l.map flatT) (by intro e; have := congrArg List.length e; simp at this; rw [this] at h2; simp at h2) hl
    have g4 := gaths_dep (op := op) (m := maxL (l.map Qt.dep)) (l.map flatT) [] hdp (by simp)
    have hst : (Qt.group op (ofL l)).st.length = szL l + 1 := by show ((ofL l).st ++ _).length = _; rw [ofL_st]; simp [szL]
    have hde : (Qt.group op (ofL l)).dep = maxL (l.map Qt.dep) + 1 := by show (ofL l).dep + 1 = _; rw [ofL_dep]
    rw [hst, hde]
    have e0 : szL [] = 0 := rfl
    generalize (l.map flatT).foldl (gath op) [] = S at *
    unfold mkG
    split
    · rename_i hS
      obtain ⟨x, rfl⟩ := List.length_eq_one_iff.1 hS
      have h5 := g1 x (by simp)
      have h6 := g4 x (by simp)
      rw [szL_one] at g2
      exact ⟨h5.1, h5.2, by show x.st.length ≤ _; omega, by show x.dep ≤ _; omega⟩
    · rename_i hS
      have h5 := List.length_pos_iff.2 g3
      refine ⟨trivial, ⟨h1, by rw [ofL_len]; omega, ofL_isL _, ofL_wf g1⟩, ?_, ?_⟩
      · show ((ofL S).st ++ _).length ≤ _
        rw [ofL_st, List.length_append]
        unfold szL at g2
        simp only [List.length_singleton]
        unfold szL at *
        omega
      · show (ofL S).dep + 1 ≤ _
        rw [ofL_dep]
        have := maxL_le (l := S.map Qt.dep) (m := maxL (l.map Qt.dep)) fun y hy => by
          obtain ⟨k, hk, rfl⟩ := List.mem_map.1 hy
          exact g4 k hk
        omega
end Go.Proofs.Ytakokckokchacaa
namespace Go.Proofs.Ytakokckokchacaa
open Go.RowKit
set_option linter.unusedVariables false
set_option maxRecDepth 20000
variable {B : Nat} {w0 : World} {F L M : List Ch} {A A2 : Option Addr} {n c c2 g : Nat}
theorem set_last {α : Type} {l : List α} (h : 1 ≤ l.length) (v : α) : l.set (l.length - 1) v = l.take (l.length - 1) ++ [v] := by
  rw [List.set_eq_take_append_cons_drop, if_pos (by omega), List.drop_of_length_le (by omega)]
theorem nv_iface {t : Qt} {u : Value} (h : NV B w0 L t [u]) (hn : t.isN) : ∃ ty v, u = .iface ty v := by
  cases t with
  | leaf s => exact ⟨_, _, by simpa using (show [u] = _ from h)⟩
  | not k => obtain ⟨x, hx, _⟩ := h; exact ⟨_, _, by simpa using hx⟩
  | group op ks => obtain ⟨A, c, vs, hx, _⟩ := h; exact ⟨_, _, by simpa using hx⟩
  | nil => exact hn.elim
  | cons k r => exact hn.elim
theorem tree_x {q : List StepC} {t : Qt} (hb : Bor B w0 F 5 (.slice A q.length c) q.length (stepsV q)) (hq : q.length ≤ 1000) (hd : depS [] q = some [t.dep]) (hp : parS [] q = [t]) :
    Does Try.prog B w0 30 [.slice A q.length c] F (fun r L => ∃ M, L = M ++ F ∧ NV B w0 M t [r]) := by
  refine fn_walk Try.func30 63 rfl rfl rfl [(0, .slice A q.length c)] ⟨⟨rfl, rfl⟩, trivial⟩ ?_
  refine vc_seq ?_
  refine vc_region ?_
  refine vl_det (det_assign rfl) rfl ?_
  refine vl_end [(0, _)] ⟨rfl, trivial⟩ ?_
  refine then_next ?_
  refine vc_seq ?_
  refine vc_region ?_
  refine vl_det (det_assign rfl) rfl ?_
  refine vl_end [(0, _), (3, _)] ⟨rfl, rfl, trivial⟩ ?_
  refine then_next ?_
  refine vc_seq ?_
  refine vc_seq ?_
  refine vc_nil_row 58 1 none ?_
  refine vc_region ?_
  refine vl_det (det_move rfl) rfl ?_
  refine vl_det (det_len_sl Try.underlying22 rfl) rfl ?_
  refine vl_det (det_move rfl) rfl ?_
  refine vl_end [(3, _), (8, _), (9, _), (10, _)] ⟨rfl, rfl, rfl, rfl, trivial⟩ ?_
  refine then_next ?_
  refine vc_block ?_
  refine vc_loopJ (fun zf zL zm => ∃ (k : Nat) (S : List Qt) (us : List Value) (M : List Ch) (A3 : Option Addr) (c3 : Nat), (k ≤ q.length ∧ (∀ t ∈ S, t.isN ∧ t.wf) ∧ depS (S.map Qt.dep) (q.drop k) = some [t.dep] ∧ parS S (q.drop k) = [t] ∧ NVs B w0 M S us ∧ S.length ≤ k) ∧ q.length - k = zm ∧ Sub zf [(3, .slice A3 S.length c3), (8, .slice A q.length c), (9, .int .i64 q.length), (10, .int .i64 k)] ∧ Wk zL (.own 58 1 A3 S.length c3 us :: (M ++ F))) _ ⟨0, [], [], [], none, 0, ⟨Nat.zero_le _, fun t h => absurd h (by simp), hd, hp, rfl, Nat.le_refl _⟩, rfl, ⟨(by first | rfl | exact int_to (by omega) | exact sl_to (by omega)), (by first | rfl | exact int_to (by omega) | exact sl_to (by omega)), (by first | rfl | exact int_to (by omega) | exact sl_to (by omega)), (by first | rfl | exact int_to (by omega) | exact sl_to (by omega)), trivial⟩, .refl _⟩ ?_
  rintro _ _ _ ⟨k, S, us, M, A3, c3, ⟨hk, hS, hD, hP, hN, hSk⟩, rfl, hs, hp⟩
  refine vc_weaken _ hs (vc_wk hp ?_)
  clear hs hp
  refine vc_seq ?_
  refine vc_region ?_
  refine vl_det (det_lss rfl rfl) rfl ?_
  refine vl_end [(3, _), (8, _), (9, _), (10, _), (11, _)] ⟨rfl, rfl, rfl, rfl, rfl, trivial⟩ ?_
  refine then_next ?_
  refine vc_seq ?_
  refine vc_decideU rfl (fun h11 => ?_) (fun h11 => ?_)
  · skip
    rw [drop_getD (show k < q.length by omega) sNil] at hD hP
    have hone := step_one (q.getD k sNil)
    have hcl := step_cells (q := q) (k := k) (by omega)
    obtain ⟨s, hs⟩ : ∃ s, s = q.getD k sNil := ⟨_, rfl⟩
    rw [← hs] at hD hP hone hcl
    have hul := hN.len
    have hbb : Bor B w0 (M ++ F) 5 (.slice A q.length c) q.length (stepsV q) := hb.mono (List.sublist_append_right ..)
    rw [depS_cons, List.length_map] at hD
    have hcnd : rightS s ∧ takesS s ≤ S.length := Classical.byContradiction fun h => by rw [if_neg h] at hD; cases hD
    rw [if_pos hcnd] at hD
    obtain ⟨hrs, htk⟩ := hcnd
    obtain ⟨hS2, hD2, _⟩ := stepT_ok hS hrs htk
    rw [← hD2] at hD
    rw [parS_cons] at hP
    clear hD2
    obtain ⟨op, nn, wd, fr, to⟩ := s
    simp only [StepC.cells] at hone hcl
    refine vc_skip ?_
    refine then_next ?_
    refine vc_seq ?_
    refine vc_block ?_
    refine vc_seq ?_
    refine vc_region ?_
    refine vl_det (det_indexAddr (size := 5) Try.underlying22 (by kernel_rfl) rfl rfl rfl (by omega) (by first | (exact Bor.own (by repeat (first | exact List.Mem.head _ | apply List.Mem.tail))) | (repeat (first | assumption | apply Bor.cons)))) rfl ?_
    refine vl_det (det_load_rowa 5 (by kernel_rfl) rfl (by first | (exact Bor.own (by repeat (first | exact List.Mem.head _ | apply List.Mem.tail))) | (repeat (first | assumption | apply Bor.cons))) (by omega) [.int .i64 op, .int .i64 nn, .string ⟨wd.toArray⟩, .int .u64 (fr : Int), .int .u64 (to : Int)] hcl rfl) rfl ?_
    refine vl_eff (eff_alloc_z (zv := (.agg #[.int .i64 0, .int .i64 0, .string ⟨#[]⟩, .int .u64 0, .int .u64 0])) (by kernel_rfl) rfl) rfl ?_
    rintro _ _ ⟨g5, rfl, rfl⟩
    refine vl_eff0 (eff_store_whole 5 (by kernel_rfl) rfl rfl (by first | exact bv_one _ | exact strs_one _ | exact ints_one _ _ | (simp; done) | (simp [Value.oneCell']; done) | assumption) (by repeat (first | exact .hd | apply Sel.tl)) (by first | rfl | (simp; omega) | (simp [*]; done)) (by first | rfl | (simp; omega) | (simp [*]; done))) ?_
    rintro _ _ rfl
    refine vl_end [(3, _), (5, _), (8, _), (9, _), (10, _)] ⟨rfl, rfl, rfl, rfl, rfl, trivial⟩ ?_
    refine then_next ?_
    refine vc_seq ?_
    refine vc_region ?_
    refine vl_det (det_fieldAddr_ Try.underlying38 rfl (by kernel_rfl) rfl rfl) rfl ?_
    refine vl_det (det_load_blk (by kernel_rfl) rfl (by repeat (first | exact .hd | apply Sel.tl)) rfl) rfl ?_
    refine vl_end [(3, _), (5, _), (8, _), (9, _), (10, _), (15, _)] ⟨rfl, rfl, rfl, rfl, rfl, rfl, trivial⟩ ?_
    refine then_next ?_
    refine vc_block ?_
    refine vc_seq ?_
    refine vc_region ?_
    refine vl_det (det_eql rfl rfl) rfl ?_
    refine vl_det (det_assign rfl) rfl ?_
    refine vl_end [(3, _), (5, _), (8, _), (9, _), (10, _), (15, _), (22, _)] ⟨rfl, rfl, rfl, rfl, rfl, rfl, rfl, trivial⟩ ?_
    refine then_next ?_
    refine vc_decideU rfl (fun h22 => ?_) (fun h22 => ?_)
    · skip
      have hT : takesS (op, nn, wd, fr, to) = 1 := by unfold takesS; simp [h22]
      have hE : stepT S (op, nn, wd, fr, to) = S.take (S.length - 1) ++ [.not (S.getD (S.length - 1) .nil)] := by unfold stepT; simp [h22]
      rw [hT] at htk
      rw [hE] at hS2 hD hP
      obtain ⟨u, hu, hku⟩ := hN.get (k := S.length - 1) (by omega)
      obtain ⟨uy, uv, rfl⟩ := nv_iface hku (hS _ (getD_mem (show S.length - 1 < S.length by omega) .nil)).1
      have hu1 : us[(S.length - 1) * 1]? = some (.iface uy uv) := by rw [Nat.mul_one]; exact hu
      have hnm : NV B w0 M (.not (S.getD (S.length - 1) .nil)) [.iface 64 (.agg #[.iface uy uv])] := ⟨_, rfl, hku⟩
      have hset : ∀ v, us.set ((S.length - 1) * 1) v = us.take (S.length - 1) ++ [v] := fun v => by rw [Nat.mul_one, ← hul]; exact set_last (by omega) v
      refine vc_region ?_
      refine vl_det (det_move rfl) rfl ?_
      refine vl_det (det_move rfl) rfl ?_
      refine vl_det (det_len_sl Try.underlying65 rfl) rfl ?_
      refine vl_det (det_sub rfl rfl (w_i64 (by omega) (by omega))) rfl ?_
      refine vl_det (det_move rfl) rfl ?_
      refine vl_det (det_move rfl) rfl ?_
      refine vl_det (det_len_sl Try.underlying65 rfl) rfl ?_
      refine vl_det (det_sub rfl rfl (w_i64 (by omega) (by omega))) rfl ?_
      refine vl_det (det_indexAddr (i := S.length - 1) (size := 1) Try.underlying65 (by kernel_rfl) rfl rfl (by omega) (by omega) (by first | (exact Bor.own (by repeat (first | exact List.Mem.head _ | apply List.Mem.tail))) | (repeat (first | assumption | apply Bor.cons)))) rfl ?_
      refine vl_det (det_load_row (by kernel_rfl) rfl (by first | (exact Bor.own (by repeat (first | exact List.Mem.head _ | apply List.Mem.tail))) | (repeat (first | assumption | apply Bor.cons))) (by omega) hu1) rfl ?_
      refine vl_det (det_build [(0, _)] [_] rfl rfl (by kernel_rfl)) rfl ?_
      refine vl_det (det_makeIface (by kernel_rfl) rfl) rfl ?_
      refine vl_det (det_indexAddr (i := S.length - 1) (size := 1) Try.underlying65 (by kernel_rfl) rfl rfl (by omega) (by omega) (by first | (exact Bor.own (by repeat (first | exact List.Mem.head _ | apply List.Mem.tail))) | (repeat (first | assumption | apply Bor.cons)))) rfl ?_
      refine vl_eff0 (eff_store_row (by kernel_rfl) rfl rfl rfl (by repeat (first | exact .hd | apply Sel.tl)) (by first | omega | (simp; done) | (simp; omega))) ?_
      rintro _ _ rfl
      refine vl_end [(3, _), (8, _), (9, _), (10, _)] ⟨rfl, rfl, rfl, rfl, trivial⟩ ?_
      refine in_normal ?_
      refine in_normal ?_
      refine then_next ?_
      refine vc_region ?_
      refine vl_det (det_add rfl rfl (w_i64 (by omega) (by omega))) rfl ?_
      refine vl_det (det_move rfl) rfl ?_
      refine vl_end [(3, _), (8, _), (9, _), (10, _)] ⟨rfl, rfl, rfl, rfl, trivial⟩ ?_
      have hel : S.length = (S.take (S.length - 1) ++ [Qt.not (S.getD (S.length - 1) .nil)]).length := by simp; omega
      refine in_loop_ ⟨_, by omega, k + 1, S.take (S.length - 1) ++ [.not (S.getD (S.length - 1) .nil)], us.take (S.length - 1) ++ [.iface 64 (.agg #[.iface uy uv])], M, A3, c3, ⟨by omega, hS2, hD, hP, NVs.append (S := S.take (S.length - 1)) (hN.take _) (NVs.sing hnm), by omega⟩, rfl, ⟨(by first | rfl | exact int_to (by omega) | exact sl_to (by omega)), (by first | rfl | exact int_to (by omega) | exact sl_to (by omega)), (by first | rfl | exact int_to (by omega) | exact sl_to (by omega)), (by first | rfl | exact int_to (by omega) | exact sl_to (by omega)), trivial⟩, .skip (wk_own hel (hset _) (.refl _))⟩
    · skip
      have hT : takesS (op, nn, wd, fr, to) = if op = 6 ∨ op = 7 then nn else 0 := by unfold takesS; simp [h22]
      rw [hT] at htk
      refine vc_seq ?_
      refine vc_seq ?_
      refine vc_region ?_
      refine vl_det (det_eql rfl rfl) rfl ?_
      refine vl_det (det_assign rfl) rfl ?_
      refine vl_end [(3, _), (5, _), (8, _), (9, _), (10, _), (15, _), (37, _)] ⟨rfl, rfl, rfl, rfl, rfl, rfl, rfl, trivial⟩ ?_
      refine then_next ?_
      refine vc_decideU rfl (fun h37 => ?_) (fun h37 => ?_)
      · skip
        have h67 : op = 6 ∨ op = 7 := by omega
        have hE : stepT S (op, nn, wd, fr, to) = S.take (S.length - nn.toNat) ++ [.group op (ofL (S.drop (S.length - nn.toNat)))] := by unfold stepT; simp [h22, h67]
        rw [if_pos h67] at htk
        have hn2 := ((right_g h67).1 hrs).2
        obtain ⟨i, hi⟩ : ∃ i, i = S.length - nn.toNat := ⟨_, rfl⟩
        rw [← hi] at hE
        rw [hE] at hS2 hD hP
        have hii : (S.length : Int) - nn = i := by omega
        have hil : i ≤ S.length := by omega
        have hdl : (S.drop i).length = S.length - i := List.length_drop
        have hbd : ∀ {L : List Ch}, .own 58 1 A3 S.length c3 us ∈ L → Bor B w0 L 1 (.slice (if c3 = i then A3 else A3.map (·.add (i * 1))) (S.length - i) (c3 - i)) (S.length - i) (us.drop i) := fun h => by
          have := (Bor.own h).cut (B := B) (w0 := w0) hil; rwa [show us.drop (i * 1) = us.drop i by rw [Nat.mul_one]] at this
        have hgm : ∀ A50 c50, NV B w0 (.own 58 1 A50 (S.length - i) c50 (us.drop i) :: M) (.group op (ofL (S.drop i))) [.iface 67 (.agg #[.int .i64 op, .slice A50 (S.length - i) c50])] := fun A50 c50 => by
          have := nv_group_mk (op := op) (l := S.drop i) (L := .own 58 1 A50 (S.length - i) c50 (us.drop i) :: M) (A := A50) (c := c50) (vs := us.drop i) (by rw [hdl]; exact Bor.own (.head _)) (hN.drop i).cons_
          rwa [hdl] at this
        refine vc_skip ?_
        refine then_next ?_
        refine vc_cond_t rfl ?_
        refine vc_seq ?_
        refine vc_bor (Bor.own (B := B) (w0 := w0) (L := .blk g5 38 [.int .i64 op, .int .i64 nn, .string ⟨wd.toArray⟩, .int .u64 (fr : Int), .int .u64 (to : Int)] :: .own 58 1 A3 S.length c3 us :: (M ++ F)) (.tail _ (.head _))) fun hcap _ => ?_
        refine vc_region ?_
        refine vl_det (det_move rfl) rfl ?_
        refine vl_det (det_len_sl Try.underlying65 rfl) rfl ?_
        refine vl_det (det_fieldAddr_ Try.underlying38 rfl (by kernel_rfl) rfl rfl) rfl ?_
        refine vl_det (det_load_blk (by kernel_rfl) rfl (by repeat (first | exact .hd | apply Sel.tl)) rfl) rfl ?_
        refine vl_det (det_sub rfl rfl (r := (i : Int)) ((w_i64 (by omega) (by omega)).trans hii)) rfl ?_
        refine vl_det (det_assign rfl) rfl ?_
        refine vl_end [(3, _), (5, _), (6, _), (8, _), (9, _), (10, _)] ⟨rfl, rfl, rfl, rfl, rfl, rfl, trivial⟩ ?_
        refine then_next ?_
        refine vc_seqJ (fun zf zL => ∃ (A50 : Option Addr) (c50 g7 : Nat), Sub zf [(3, .slice A3 S.length c3), (6, .int .i64 i), (7, .pointer (some ⟨g7, 0, none⟩)), (8, .slice A q.length c), (9, .int .i64 q.length), (10, .int .i64 k)] ∧ Wk zL (.own 58 1 A3 S.length c3 us :: .own 58 1 A50 (S.length - i) c50 (us.drop i) :: .blk g7 67 [.int .i64 op, .slice A50 (S.length - i) c50] :: (M ++ F))) ?_ ?_
        · skip
          refine vh_region (S := .blk g5 38 [.int .i64 op, .int .i64 nn, .string ⟨wd.toArray⟩, .int .u64 (fr : Int), .int .u64 (to : Int)] :: .own 58 1 A3 S.length c3 us :: (M ++ F)) (by kernel_rfl) (by repeat (first | exact List.Sublist.refl _ | exact List.nil_sublist _ | exact List.sublist_append_right _ _ | apply List.Sublist.cons_cons | apply List.Sublist.cons)) ?_
          refine vh_take 0 rfl (by kernel_rfl) (by kernel_rfl) (by kernel_rfl) (det_fieldAddr_ Try.underlying38 rfl (by kernel_rfl) rfl rfl) rfl ?_
          refine vh_take 1 rfl (by kernel_rfl) (by kernel_rfl) (by kernel_rfl) (det_load_blk (by kernel_rfl) rfl (by repeat (first | exact .hd | apply Sel.tl)) rfl) rfl ?_
          refine vh_take 2 rfl (by kernel_rfl) (by kernel_rfl) (by kernel_rfl) (det_move rfl) rfl ?_
          refine vh_take 3 rfl (by kernel_rfl) (by kernel_rfl) (by kernel_rfl) (det_move rfl) rfl ?_
          refine vh_take 4 rfl (by kernel_rfl) (by kernel_rfl) (by kernel_rfl) (det_slice_lo (i := i) (size := 1) Try.underlying65 (by kernel_rfl) rfl rfl rfl hil) rfl ?_
          refine vh_two 5 7 (by kernel_rfl) ?_ ?_
          · skip
            refine st_call rfl .no co47 rfl (nclone_d (hbd (by repeat (first | exact List.Mem.head _ | apply List.Mem.tail))) (fun u hu => hN.one u (List.mem_of_mem_drop hu)) (by omega)) rfl (by rintro _ _ ⟨A50, c50, rfl, rfl⟩; exact (by repeat (first | exact List.Sublist.refl _ | exact List.nil_sublist _ | exact List.sublist_append_right _ _ | apply List.Sublist.cons_cons | apply List.Sublist.cons))) ?_
            rintro _ _ ⟨A50, c50, rfl, hLL⟩
            obtain rfl := hLL.symm
            refine vh_take 6 rfl (by kernel_rfl) (by kernel_rfl) (by kernel_rfl) (det_build [(0, _), (1, _)] [_, _] rfl rfl (by kernel_rfl)) rfl ?_
            refine vh_one 7 (by kernel_rfl) ?_
            refine st_eff rfl .no (eff_alloc_z (zv := (.agg #[.int .i64 0, .slice none 0 0])) (by kernel_rfl) rfl) rfl (by rintro _ _ ⟨g7, rfl, rfl⟩; exact (by repeat (first | exact List.Sublist.refl _ | exact List.nil_sublist _ | exact List.sublist_append_right _ _ | apply List.Sublist.cons_cons | apply List.Sublist.cons))) ?_
            rintro _ _ ⟨g7, rfl, rfl⟩
            refine vh_one 8 (by kernel_rfl) ?_
            refine st_eff0 rfl .no (eff_store_whole 2 (by kernel_rfl) rfl rfl (by first | exact bv_one _ | exact strs_one _ | exact ints_one _ _ | (simp; done) | (simp [Value.oneCell']; done) | assumption) (by repeat (first | exact .hd | apply Sel.tl)) (by first | rfl | (simp; omega) | (simp [*]; done)) (by first | rfl | (simp; omega) | (simp [*]; done))) (by rintro _ _ rfl; exact (by repeat (first | exact List.Sublist.refl _ | exact List.nil_sublist _ | exact List.sublist_append_right _ _ | apply List.Sublist.cons_cons | apply List.Sublist.cons))) ?_
            rintro _ _ rfl
            refine vh_done [(3, _), (6, _), (7, _), (8, _), (9, _), (10, _)] ⟨rfl, rfl, rfl, rfl, rfl, rfl, trivial⟩ (by kernel_rfl) ?_
            exact in_join ⟨A50, c50, g7, ⟨(by first | rfl | exact int_to (by omega) | exact sl_to (by omega)), (by first | rfl | exact int_to (by omega) | exact sl_to (by omega)), (by first | rfl | exact int_to (by omega) | exact sl_to (by omega)), (by first | rfl | exact int_to (by omega) | exact sl_to (by omega)), (by first | rfl | exact int_to (by omega) | exact sl_to (by omega)), (by first | rfl | exact int_to (by omega) | exact sl_to (by omega)), trivial⟩, (wu3 (wu1 (wu0 (.skip (.refl _)))))⟩
          · skip
            refine st_eff rfl .no (eff_alloc_z (zv := (.agg #[.int .i64 0, .slice none 0 0])) (by kernel_rfl) rfl) rfl (by rintro _ _ ⟨g7, rfl, rfl⟩; exact (by repeat (first | exact List.Sublist.refl _ | exact List.nil_sublist _ | exact List.sublist_append_right _ _ | apply List.Sublist.cons_cons | apply List.Sublist.cons))) ?_
            rintro _ _ ⟨g7, rfl, rfl⟩
            refine vh_one 5 (by kernel_rfl) ?_
            refine st_call rfl .no co47 rfl (nclone_d (hbd (by repeat (first | exact List.Mem.head _ | apply List.Mem.tail))) (fun u hu => hN.one u (List.mem_of_mem_drop hu)) (by omega)) rfl (by rintro _ _ ⟨A50, c50, rfl, rfl⟩; exact (by repeat (first | exact List.Sublist.refl _ | exact List.nil_sublist _ | exact List.sublist_append_right _ _ | apply List.Sublist.cons_cons | apply List.Sublist.cons))) ?_
            rintro _ _ ⟨A50, c50, rfl, hLL⟩
            obtain rfl := hLL.symm
            refine vh_take 6 rfl (by kernel_rfl) (by kernel_rfl) (by kernel_rfl) (det_build [(0, _), (1, _)] [_, _] rfl rfl (by kernel_rfl)) rfl ?_
            refine vh_one 8 (by kernel_rfl) ?_
            refine st_eff0 rfl .no (eff_store_whole 2 (by kernel_rfl) rfl rfl (by first | exact bv_one _ | exact strs_one _ | exact ints_one _ _ | (simp; done) | (simp [Value.oneCell']; done) | assumption) (by repeat (first | exact .hd | apply Sel.tl)) (by first | rfl | (simp; omega) | (simp [*]; done)) (by first | rfl | (simp; omega) | (simp [*]; done))) (by rintro _ _ rfl; exact (by repeat (first | exact List.Sublist.refl _ | exact List.nil_sublist _ | exact List.sublist_append_right _ _ | apply List.Sublist.cons_cons | apply List.Sublist.cons))) ?_
            rintro _ _ rfl
            refine vh_done [(3, _), (6, _), (7, _), (8, _), (9, _), (10, _)] ⟨rfl, rfl, rfl, rfl, rfl, rfl, trivial⟩ (by kernel_rfl) ?_
            exact in_join ⟨A50, c50, g7, ⟨(by first | rfl | exact int_to (by omega) | exact sl_to (by omega)), (by first | rfl | exact int_to (by omega) | exact sl_to (by omega)), (by first | rfl | exact int_to (by omega) | exact sl_to (by omega)), (by first | rfl | exact int_to (by omega) | exact sl_to (by omega)), (by first | rfl | exact int_to (by omega) | exact sl_to (by omega)), (by first | rfl | exact int_to (by omega) | exact sl_to (by omega)), trivial⟩, (wu3 (wu0 (wu0 (.skip (.refl _)))))⟩
        · rintro _ _ ⟨A50, c50, g7, hs, hp⟩
          refine vc_weaken _ hs (vc_wk hp ?_)
          clear hs hp
          refine vc_cut_row i (by repeat (first | exact .hd | apply Sel.tl)) hil ?_
          rw [Nat.mul_one]
          refine vh_region (S := .own 58 1 A50 (S.length - i) c50 (us.drop i) :: .blk g7 67 [.int .i64 op, .slice A50 (S.length - i) c50] :: (M ++ F)) (by kernel_rfl) (by repeat (first | exact List.Sublist.refl _ | exact List.nil_sublist _ | exact List.sublist_append_right _ _ | apply List.Sublist.cons_cons | apply List.Sublist.cons)) ?_
          refine vh_take 0 rfl (by kernel_rfl) (by kernel_rfl) (by kernel_rfl) (det_move rfl) rfl ?_
          refine vh_take 1 rfl (by kernel_rfl) (by kernel_rfl) (by kernel_rfl) (det_move rfl) rfl ?_
          refine vh_take 2 rfl (by kernel_rfl) (by kernel_rfl) (by kernel_rfl) (det_slice_hi (i := i) (size := 1) Try.underlying65 (by kernel_rfl) rfl rfl rfl (by omega)) rfl ?_
          refine vh_take 3 rfl (by kernel_rfl) (by kernel_rfl) (by kernel_rfl) (det_load_whole 2 (by kernel_rfl) rfl (by repeat (first | exact .hd | apply Sel.tl)) (by first | rfl | (simp; omega) | (simp [*]; done))) rfl ?_
          refine vh_take 4 rfl (by kernel_rfl) (by kernel_rfl) (by kernel_rfl) (det_makeIface (by kernel_rfl) rfl) rfl ?_
          refine vh_one 5 (by kernel_rfl) ?_
          refine st_eff rfl .no (eff_build_lit slT65 [_] rfl rfl (by first | exact bv_one _ | exact strs_one _ | exact ints_one _ _ | (simp; done) | (simp [Value.oneCell']; done) | assumption) (by omega) (by omega)) rfl (by rintro _ _ ⟨A57, rfl, rfl⟩; exact (by repeat (first | exact List.Sublist.refl _ | exact List.nil_sublist _ | exact List.sublist_append_right _ _ | apply List.Sublist.cons_cons | apply List.Sublist.cons))) ?_
          rintro _ _ ⟨A57, rfl, rfl⟩
          refine vh_one 6 (by kernel_rfl) ?_
          refine st_eff rfl .no (eff_app slT65 rfl (by repeat (first | exact .hd | apply Sel.tl)) rfl (by first | (exact Bor.own (by repeat (first | exact List.Mem.head _ | apply List.Mem.tail))) | (repeat (first | assumption | apply Bor.cons))) (by first | exact bv_one _ | exact strs_one _ | exact ints_one _ _ | (simp; done) | (simp [Value.oneCell']; done) | assumption) (by omega) (by omega)) rfl (by rintro _ _ ⟨A58, c58, rfl, rfl⟩; exact (by repeat (first | exact List.Sublist.refl _ | exact List.nil_sublist _ | exact List.sublist_append_right _ _ | apply List.Sublist.cons_cons | apply List.Sublist.cons))) ?_
          rintro _ _ ⟨A58, c58, rfl, rfl⟩
          refine vh_take 7 rfl (by kernel_rfl) (by kernel_rfl) (by kernel_rfl) (det_assign rfl) rfl ?_
          refine vh_done [(3, _), (8, _), (9, _), (10, _)] ⟨rfl, rfl, rfl, rfl, trivial⟩ (by kernel_rfl) ?_
          refine in_normal ?_
          refine in_normal ?_
          refine then_next ?_
          refine vc_region ?_
          refine vl_det (det_add rfl rfl (w_i64 (by omega) (by omega))) rfl ?_
          refine vl_det (det_move rfl) rfl ?_
          refine vl_end [(3, _), (8, _), (9, _), (10, _)] ⟨rfl, rfl, rfl, rfl, trivial⟩ ?_
          have hel : i + 1 = (S.take i ++ [Qt.group op (ofL (S.drop i))]).length := by simp; omega
          refine in_loop_ ⟨_, by omega, k + 1, S.take i ++ [.group op (ofL (S.drop i))], us.take i ++ [.iface 67 (.agg #[.int .i64 op, .slice A50 (S.length - i) c50])], .own 58 1 A50 (S.length - i) c50 (us.drop i) :: M, A58, c58, ⟨by omega, hS2, hD, hP, NVs.append (S := S.take i) ((hN.take i).cons_) (NVs.sing (hgm A50 c50)), by omega⟩, rfl, ⟨(by first | rfl | exact int_to (by omega) | exact sl_to (by omega)), (by first | rfl | exact int_to (by omega) | exact sl_to (by omega)), (by first | rfl | exact int_to (by omega) | exact sl_to (by omega)), (by first | rfl | exact int_to (by omega) | exact sl_to (by omega)), trivial⟩, .skip (wk_own hel rfl (.cons (.skip (.refl _))))⟩
      · skip
        refine vc_region ?_
        refine vl_det (det_eql rfl rfl) rfl ?_
        refine vl_det (det_assign rfl) rfl ?_
        refine vl_end [(3, _), (5, _), (8, _), (9, _), (10, _), (37, _)] ⟨rfl, rfl, rfl, rfl, rfl, rfl, trivial⟩ ?_
        refine then_next ?_
        refine vc_decideU rfl (fun h37 => ?_) (fun h37 => ?_)
        · skip
          have h67 : op = 6 ∨ op = 7 := by omega
          have hE : stepT S (op, nn, wd, fr, to) = S.take (S.length - nn.toNat) ++ [.group op (ofL (S.drop (S.length - nn.toNat)))] := by unfold stepT; simp [h22, h67]
          rw [if_pos h67] at htk
          have hn2 := ((right_g h67).1 hrs).2
          obtain ⟨i, hi⟩ : ∃ i, i = S.length - nn.toNat := ⟨_, rfl⟩
          rw [← hi] at hE
          rw [hE] at hS2 hD hP
          have hii : (S.length : Int) - nn = i := by omega
          have hil : i ≤ S.length := by omega
          have hdl : (S.drop i).length = S.length - i := List.length_drop
          have hbd : ∀ {L : List Ch}, .own 58 1 A3 S.length c3 us ∈ L → Bor B w0 L 1 (.slice (if c3 = i then A3 else A3.map (·.add (i * 1))) (S.length - i) (c3 - i)) (S.length - i) (us.drop i) := fun h => by
            have := (Bor.own h).cut (B := B) (w0 := w0) hil; rwa [show us.drop (i * 1) = us.drop i by rw [Nat.mul_one]] at this
          have hgm : ∀ A50 c50, NV B w0 (.own 58 1 A50 (S.length - i) c50 (us.drop i) :: M) (.group op (ofL (S.drop i))) [.iface 67 (.agg #[.int .i64 op, .slice A50 (S.length - i) c50])] := fun A50 c50 => by
            have := nv_group_mk (op := op) (l := S.drop i) (L := .own 58 1 A50 (S.length - i) c50 (us.drop i) :: M) (A := A50) (c := c50) (vs := us.drop i) (by rw [hdl]; exact Bor.own (.head _)) (hN.drop i).cons_
            rwa [hdl] at this
          refine vc_seq ?_
          refine vc_bor (Bor.own (B := B) (w0 := w0) (L := .blk g5 38 [.int .i64 op, .int .i64 nn, .string ⟨wd.toArray⟩, .int .u64 (fr : Int), .int .u64 (to : Int)] :: .own 58 1 A3 S.length c3 us :: (M ++ F)) (.tail _ (.head _))) fun hcap _ => ?_
          refine vc_region ?_
          refine vl_det (det_move rfl) rfl ?_
          refine vl_det (det_len_sl Try.underlying65 rfl) rfl ?_
          refine vl_det (det_fieldAddr_ Try.underlying38 rfl (by kernel_rfl) rfl rfl) rfl ?_
          refine vl_det (det_load_blk (by kernel_rfl) rfl (by repeat (first | exact .hd | apply Sel.tl)) rfl) rfl ?_
          refine vl_det (det_sub rfl rfl (r := (i : Int)) ((w_i64 (by omega) (by omega)).trans hii)) rfl ?_
          refine vl_det (det_assign rfl) rfl ?_
          refine vl_end [(3, _), (5, _), (6, _), (8, _), (9, _), (10, _)] ⟨rfl, rfl, rfl, rfl, rfl, rfl, trivial⟩ ?_
          refine then_next ?_
          refine vc_seqJ (fun zf zL => ∃ (A50 : Option Addr) (c50 g7 : Nat), Sub zf [(3, .slice A3 S.length c3), (6, .int .i64 i), (7, .pointer (some ⟨g7, 0, none⟩)), (8, .slice A q.length c), (9, .int .i64 q.length), (10, .int .i64 k)] ∧ Wk zL (.own 58 1 A3 S.length c3 us :: .own 58 1 A50 (S.length - i) c50 (us.drop i) :: .blk g7 67 [.int .i64 op, .slice A50 (S.length - i) c50] :: (M ++ F))) ?_ ?_
          · skip
            refine vh_region (S := .blk g5 38 [.int .i64 op, .int .i64 nn, .string ⟨wd.toArray⟩, .int .u64 (fr : Int), .int .u64 (to : Int)] :: .own 58 1 A3 S.length c3 us :: (M ++ F)) (by kernel_rfl) (by repeat (first | exact List.Sublist.refl _ | exact List.nil_sublist _ | exact List.sublist_append_right _ _ | apply List.Sublist.cons_cons | apply List.Sublist.cons)) ?_
            refine vh_take 0 rfl (by kernel_rfl) (by kernel_rfl) (by kernel_rfl) (det_fieldAddr_ Try.underlying38 rfl (by kernel_rfl) rfl rfl) rfl ?_
            refine vh_take 1 rfl (by kernel_rfl) (by kernel_rfl) (by kernel_rfl) (det_load_blk (by kernel_rfl) rfl (by repeat (first | exact .hd | apply Sel.tl)) rfl) rfl ?_
            refine vh_take 2 rfl (by kernel_rfl) (by kernel_rfl) (by kernel_rfl) (det_move rfl) rfl ?_
            refine vh_take 3 rfl (by kernel_rfl) (by kernel_rfl) (by kernel_rfl) (det_move rfl) rfl ?_
            refine vh_take 4 rfl (by kernel_rfl) (by kernel_rfl) (by kernel_rfl) (det_slice_lo (i := i) (size := 1) Try.underlying65 (by kernel_rfl) rfl rfl rfl hil) rfl ?_
            refine vh_two 5 7 (by kernel_rfl) ?_ ?_
            · skip
              refine st_call rfl .no co47 rfl (nclone_d (hbd (by repeat (first | exact List.Mem.head _ | apply List.Mem.tail))) (fun u hu => hN.one u (List.mem_of_mem_drop hu)) (by omega)) rfl (by rintro _ _ ⟨A50, c50, rfl, rfl⟩; exact (by repeat (first | exact List.Sublist.refl _ | exact List.nil_sublist _ | exact List.sublist_append_right _ _ | apply List.Sublist.cons_cons | apply List.Sublist.cons))) ?_
              rintro _ _ ⟨A50, c50, rfl, hLL⟩
              obtain rfl := hLL.symm
              refine vh_take 6 rfl (by kernel_rfl) (by kernel_rfl) (by kernel_rfl) (det_build [(0, _), (1, _)] [_, _] rfl rfl (by kernel_rfl)) rfl ?_
              refine vh_one 7 (by kernel_rfl) ?_
              refine st_eff rfl .no (eff_alloc_z (zv := (.agg #[.int .i64 0, .slice none 0 0])) (by kernel_rfl) rfl) rfl (by rintro _ _ ⟨g7, rfl, rfl⟩; exact (by repeat (first | exact List.Sublist.refl _ | exact List.nil_sublist _ | exact List.sublist_append_right _ _ | apply List.Sublist.cons_cons | apply List.Sublist.cons))) ?_
              rintro _ _ ⟨g7, rfl, rfl⟩
              refine vh_one 8 (by kernel_rfl) ?_
              refine st_eff0 rfl .no (eff_store_whole 2 (by kernel_rfl) rfl rfl (by first | exact bv_one _ | exact strs_one _ | exact ints_one _ _ | (simp; done) | (simp [Value.oneCell']; done) | assumption) (by repeat (first | exact .hd | apply Sel.tl)) (by first | rfl | (simp; omega) | (simp [*]; done)) (by first | rfl | (simp; omega) | (simp [*]; done))) (by rintro _ _ rfl; exact (by repeat (first | exact List.Sublist.refl _ | exact List.nil_sublist _ | exact List.sublist_append_right _ _ | apply List.Sublist.cons_cons | apply List.Sublist.cons))) ?_
              rintro _ _ rfl
              refine vh_done [(3, _), (6, _), (7, _), (8, _), (9, _), (10, _)] ⟨rfl, rfl, rfl, rfl, rfl, rfl, trivial⟩ (by kernel_rfl) ?_
              exact in_join ⟨A50, c50, g7, ⟨(by first | rfl | exact int_to (by omega) | exact sl_to (by omega)), (by first | rfl | exact int_to (by omega) | exact sl_to (by omega)), (by first | rfl | exact int_to (by omega) | exact sl_to (by omega)), (by first | rfl | exact int_to (by omega) | exact sl_to (by omega)), (by first | rfl | exact int_to (by omega) | exact sl_to (by omega)), (by first | rfl | exact int_to (by omega) | exact sl_to (by omega)), trivial⟩, (wu3 (wu1 (wu0 (.skip (.refl _)))))⟩
            · skip
              refine st_eff rfl .no (eff_alloc_z (zv := (.agg #[.int .i64 0, .slice none 0 0])) (by kernel_rfl) rfl) rfl (by rintro _ _ ⟨g7, rfl, rfl⟩; exact (by repeat (first | exact List.Sublist.refl _ | exact List.nil_sublist _ | exact List.sublist_append_right _ _ | apply List.Sublist.cons_cons | apply List.Sublist.cons))) ?_
              rintro _ _ ⟨g7, rfl, rfl⟩
              refine vh_one 5 (by kernel_rfl) ?_
              refine st_call rfl .no co47 rfl (nclone_d (hbd (by repeat (first | exact List.Mem.head _ | apply List.Mem.tail))) (fun u hu => hN.one u (List.mem_of_mem_drop hu)) (by omega)) rfl (by rintro _ _ ⟨A50, c50, rfl, rfl⟩; exact (by repeat (first | exact List.Sublist.refl _ | exact List.nil_sublist _ | exact List.sublist_append_right _ _ | apply List.Sublist.cons_cons | apply List.Sublist.cons))) ?_
              rintro _ _ ⟨A50, c50, rfl, hLL⟩
              obtain rfl := hLL.symm
              refine vh_take 6 rfl (by kernel_rfl) (by kernel_rfl) (by kernel_rfl) (det_build [(0, _), (1, _)] [_, _] rfl rfl (by kernel_rfl)) rfl ?_
              refine vh_one 8 (by kernel_rfl) ?_
              refine st_eff0 rfl .no (eff_store_whole 2 (by kernel_rfl) rfl rfl (by first | exact bv_one _ | exact strs_one _ | exact ints_one _ _ | (simp; done) | (simp [Value.oneCell']; done) | assumption) (by repeat (first | exact .hd | apply Sel.tl)) (by first | rfl | (simp; omega) | (simp [*]; done)) (by first | rfl | (simp; omega) | (simp [*]; done))) (by rintro _ _ rfl; exact (by repeat (first | exact List.Sublist.refl _ | exact List.nil_sublist _ | exact List.sublist_append_right _ _ | apply List.Sublist.cons_cons | apply List.Sublist.cons))) ?_
              rintro _ _ rfl
              refine vh_done [(3, _), (6, _), (7, _), (8, _), (9, _), (10, _)] ⟨rfl, rfl, rfl, rfl, rfl, rfl, trivial⟩ (by kernel_rfl) ?_
              exact in_join ⟨A50, c50, g7, ⟨(by first | rfl | exact int_to (by omega) | exact sl_to (by omega)), (by first | rfl | exact int_to (by omega) | exact sl_to (by omega)), (by first | rfl | exact int_to (by omega) | exact sl_to (by omega)), (by first | rfl | exact int_to (by omega) | exact sl_to (by omega)), (by first | rfl | exact int_to (by omega) | exact sl_to (by omega)), (by first | rfl | exact int_to (by omega) | exact sl_to (by omega)), trivial⟩, (wu3 (wu0 (wu0 (.skip (.refl _)))))⟩
          · rintro _ _ ⟨A50, c50, g7, hs, hp⟩
            refine vc_weaken _ hs (vc_wk hp ?_)
            clear hs hp
            refine vc_cut_row i (by repeat (first | exact .hd | apply Sel.tl)) hil ?_
            rw [Nat.mul_one]
            refine vh_region (S := .own 58 1 A50 (S.length - i) c50 (us.drop i) :: .blk g7 67 [.int .i64 op, .slice A50 (S.length - i) c50] :: (M ++ F)) (by kernel_rfl) (by repeat (first | exact List.Sublist.refl _ | exact List.nil_sublist _ | exact List.sublist_append_right _ _ | apply List.Sublist.cons_cons | apply List.Sublist.cons)) ?_
            refine vh_take 0 rfl (by kernel_rfl) (by kernel_rfl) (by kernel_rfl) (det_move rfl) rfl ?_
            refine vh_take 1 rfl (by kernel_rfl) (by kernel_rfl) (by kernel_rfl) (det_move rfl) rfl ?_
            refine vh_take 2 rfl (by kernel_rfl) (by kernel_rfl) (by kernel_rfl) (det_slice_hi (i := i) (size := 1) Try.underlying65 (by kernel_rfl) rfl rfl rfl (by omega)) rfl ?_
            refine vh_take 3 rfl (by kernel_rfl) (by kernel_rfl) (by kernel_rfl) (det_load_whole 2 (by kernel_rfl) rfl (by repeat (first | exact .hd | apply Sel.tl)) (by first | rfl | (simp; omega) | (simp [*]; done))) rfl ?_
            refine vh_take 4 rfl (by kernel_rfl) (by kernel_rfl) (by kernel_rfl) (det_makeIface (by kernel_rfl) rfl) rfl ?_
            refine vh_one 5 (by kernel_rfl) ?_
            refine st_eff rfl .no (eff_build_lit slT65 [_] rfl rfl (by first | exact bv_one _ | exact strs_one _ | exact ints_one _ _ | (simp; done) | (simp [Value.oneCell']; done) | assumption) (by omega) (by omega)) rfl (by rintro _ _ ⟨A57, rfl, rfl⟩; exact (by repeat (first | exact List.Sublist.refl _ | exact List.nil_sublist _ | exact List.sublist_append_right _ _ | apply List.Sublist.cons_cons | apply List.Sublist.cons))) ?_
            rintro _ _ ⟨A57, rfl, rfl⟩
            refine vh_one 6 (by kernel_rfl) ?_
            refine st_eff rfl .no (eff_app slT65 rfl (by repeat (first | exact .hd | apply Sel.tl)) rfl (by first | (exact Bor.own (by repeat (first | exact List.Mem.head _ | apply List.Mem.tail))) | (repeat (first | assumption | apply Bor.cons))) (by first | exact bv_one _ | exact strs_one _ | exact ints_one _ _ | (simp; done) | (simp [Value.oneCell']; done) | assumption) (by omega) (by omega)) rfl (by rintro _ _ ⟨A58, c58, rfl, rfl⟩; exact (by repeat (first | exact List.Sublist.refl _ | exact List.nil_sublist _ | exact List.sublist_append_right _ _ | apply List.Sublist.cons_cons | apply List.Sublist.cons))) ?_
            rintro _ _ ⟨A58, c58, rfl, rfl⟩
            refine vh_take 7 rfl (by kernel_rfl) (by kernel_rfl) (by kernel_rfl) (det_assign rfl) rfl ?_
            refine vh_done [(3, _), (8, _), (9, _), (10, _)] ⟨rfl, rfl, rfl, rfl, trivial⟩ (by kernel_rfl) ?_
            refine in_normal ?_
            refine in_normal ?_
            refine then_next ?_
            refine vc_region ?_
            refine vl_det (det_add rfl rfl (w_i64 (by omega) (by omega))) rfl ?_
            refine vl_det (det_move rfl) rfl ?_
            refine vl_end [(3, _), (8, _), (9, _), (10, _)] ⟨rfl, rfl, rfl, rfl, trivial⟩ ?_
            have hel : i + 1 = (S.take i ++ [Qt.group op (ofL (S.drop i))]).length := by simp; omega
            refine in_loop_ ⟨_, by omega, k + 1, S.take i ++ [.group op (ofL (S.drop i))], us.take i ++ [.iface 67 (.agg #[.int .i64 op, .slice A50 (S.length - i) c50])], .own 58 1 A50 (S.length - i) c50 (us.drop i) :: M, A58, c58, ⟨by omega, hS2, hD, hP, NVs.append (S := S.take i) ((hN.take i).cons_) (NVs.sing (hgm A50 c50)), by omega⟩, rfl, ⟨(by first | rfl | exact int_to (by omega) | exact sl_to (by omega)), (by first | rfl | exact int_to (by omega) | exact sl_to (by omega)), (by first | rfl | exact int_to (by omega) | exact sl_to (by omega)), (by first | rfl | exact int_to (by omega) | exact sl_to (by omega)), trivial⟩, .skip (wk_own hel rfl (.cons (.skip (.refl _))))⟩
        · skip
          have h67 : ¬ (op = 6 ∨ op = 7) := by omega
          have hE : stepT S (op, nn, wd, fr, to) = S ++ [.leaf (op, nn, wd, fr, to)] := by unfold stepT; simp [h22, h67]
          rw [hE] at hS2 hD hP
          refine vc_region ?_
          refine vl_det (det_move rfl) rfl ?_
          refine vl_det (det_load_whole 5 (by kernel_rfl) rfl (by repeat (first | exact .hd | apply Sel.tl)) (by first | rfl | (simp; omega) | (simp [*]; done))) rfl ?_
          refine vl_det (det_build [(0, _)] [_, _, _, _, _] rfl rfl (by kernel_rfl)) rfl ?_
          refine vl_det (det_makeIface (by kernel_rfl) rfl) rfl ?_
          refine vl_push slT65 rfl rfl rfl rfl rfl (fun _ => rfl) (by repeat (first | exact .hd | apply Sel.tl)) (by omega) (by omega) ?_
          intro _ A21 c21
          refine vl_det (det_assign rfl) rfl ?_
          refine vl_end [(3, _), (8, _), (9, _), (10, _)] ⟨rfl, rfl, rfl, rfl, trivial⟩ ?_
          refine in_normal ?_
          refine in_normal ?_
          refine then_next ?_
          refine vc_region ?_
          refine vl_det (det_add rfl rfl (w_i64 (by omega) (by omega))) rfl ?_
          refine vl_det (det_move rfl) rfl ?_
          refine vl_end [(3, _), (8, _), (9, _), (10, _)] ⟨rfl, rfl, rfl, rfl, trivial⟩ ?_
          have hel : S.length + 1 = (S ++ [Qt.leaf (op, nn, wd, fr, to)]).length := by simp
          refine in_loop_ ⟨_, by omega, k + 1, S ++ [.leaf (op, nn, wd, fr, to)], us ++ [.iface 88 (.agg (StepC.cells (op, nn, wd, fr, to)).toArray)], M, A21, c21, ⟨by omega, hS2, hD, hP, NVs.append (S := S) hN (NVs.sing (show NV B w0 M (.leaf (op, nn, wd, fr, to)) [_] from rfl)), by omega⟩, rfl, ⟨(by first | rfl | exact int_to (by omega) | exact sl_to (by omega)), (by first | rfl | exact int_to (by omega) | exact sl_to (by omega)), (by first | rfl | exact int_to (by omega) | exact sl_to (by omega)), (by first | rfl | exact int_to (by omega) | exact sl_to (by omega)), trivial⟩, .skip (wk_own hel rfl (.refl _))⟩
  · skip
    obtain rfl : k = q.length := by omega
    rw [List.drop_of_length_le (Nat.le_refl _)] at hP
    obtain rfl : S = [t] := hP
    obtain ⟨u, hu, hku⟩ := hN.get (k := 0) (by simp)
    refine vc_exit ?_
    refine then_exit ?_
    refine loop_exit ?_
    refine in_eq ?_
    refine then_next ?_
    refine vc_seq ?_
    refine vc_region ?_
    refine vl_det (det_move rfl) rfl ?_
    refine vl_det (det_indexAddr (i := 0) (size := 1) Try.underlying65 (by kernel_rfl) rfl rfl rfl (by simp) (by first | (exact Bor.own (by repeat (first | exact List.Mem.head _ | apply List.Mem.tail))) | (repeat (first | assumption | apply Bor.cons)))) rfl ?_
    refine vl_det (det_load_row (by kernel_rfl) rfl (by first | (exact Bor.own (by repeat (first | exact List.Mem.head _ | apply List.Mem.tail))) | (repeat (first | assumption | apply Bor.cons))) (by simp) (show us[0 * 1]? = some u from hu)) rfl ?_
    refine vl_det (det_assign rfl) rfl ?_
    refine vl_end [(2, _)] ⟨rfl, trivial⟩ ?_
    refine then_next ?_
    refine vc_ret ?_
    refine ret_wk (L' := M ++ F) (.skip (.refl _)) ?_
    refine ret1 rfl rfl ?_
    exact ⟨M, rfl, hku⟩
theorem tree_d {q : List StepC} {t : Qt} (hb : Bor B w0 F 5 (.slice A q.length c) q.length (stepsV q)) (hq : q.length ≤ 1000) (hd : depS [] q = some [t.dep]) (hp : parS [] q = [t]) :
    Does Try.prog B w0 30 [.slice A q.length c] F (fun r L => ∃ M, L = M ++ F ∧ NV B w0 (M ++ F) t [r]) :=
  (tree_x hb hq hd hp).mono fun r L ⟨M, h1, h2⟩ => ⟨M, h1, h2.mono (List.sublist_append_left M F)⟩
end Go.Proofs.Ytakokckokchacaa
