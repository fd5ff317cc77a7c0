/-
  canon.Write and the document's Write, by frames. No condition.
-/
import Derived.Test.YtpdnohllbijonaaCn1
import Derived.Test.YtpdnohllbijonaaBitLawp
namespace Go.Proofs.Ytpdnohllbijonaa
open Go.RowKit
set_option linter.unusedVariables false
variable {B : Nat} {w0 : World} {F : List Ch} {A Al : Option Addr} {c cl g : Nat} {bt : TypeId}
theorem check_ok {l : List UInt8} (hg : Good l) (hb : Bor B w0 F 1 (.slice Al l.length cl) l.length (bv l)) : Does Try.prog B w0 11 [.slice Al l.length cl] F (fun r L => r = .int .i64 0 ∧ L = F) := by
  have h := check_d l hb
  rw [chk_good hg] at h
  exact h
theorem check_no {l : List UInt8} (hg : ¬ Good l) (hb : Bor B w0 F 1 (.slice Al l.length cl) l.length (bv l)) : Does Try.prog B w0 11 [.slice Al l.length cl] F (fun r L => r = .int .i64 7 ∧ L = F) := by
  have h := check_d l hb
  rw [chk_bad hg] at h
  exact h
theorem rcheck_ok {l : List UInt8} (hg : Good l) (hb : Bor B w0 F 1 (.slice Al l.length cl) l.length (bv l)) : Does Try.prog B w0 12 [.slice Al l.length cl] F (fun r L => r = .int .i64 0 ∧ L = F) := by
  have h := rcheck_d l hb
  rw [chk_good hg] at h
  exact h
theorem rcheck_no {l : List UInt8} (hg : ¬ Good l) (hb : Bor B w0 F 1 (.slice Al l.length cl) l.length (bv l)) : Does Try.prog B w0 12 [.slice Al l.length cl] F (fun r L => r = .int .i64 7 ∧ L = F) := by
  have h := rcheck_d l hb
  rw [chk_bad hg] at h
  exact h
/-- zeros from a place on, as many as there is room -/
def cz (l : List UInt8) : Nat → Nat → Nat
  | _, 0 => 0
  | i, f + 1 => if i < l.length ∧ (l.getD i 0).toNat = 0 then cz l (i + 1) f + 1 else 0
theorem cz_le (l : List UInt8) : ∀ f i, cz l i f ≤ f
  | 0, i => Nat.le_refl _
  | f + 1, i => by
    rw [cz]
    split
    · have := cz_le l f (i + 1); omega
    · omega
theorem cz_in (l : List UInt8) : ∀ f i, i ≤ l.length → i + cz l i f ≤ l.length
  | 0, i, h => h
  | f + 1, i, h => by
    rw [cz]
    split
    · have := cz_in l f (i + 1) (by omega); omega
    · omega
theorem cz_go {l : List UInt8} {i m : Nat} (hm : m < 63) (h1 : i + m < l.length) (h2 : (l.getD (i + m) 0).toNat = 0) (h : cz l i 63 = m + cz l (i + m) (63 - m)) : cz l i 63 = (m + 1) + cz l (i + (m + 1)) (63 - (m + 1)) := by
  rw [h, show 63 - m = (63 - (m + 1)) + 1 by omega, cz, if_pos ⟨h1, h2⟩, show i + m + 1 = i + (m + 1) by omega]
  omega
theorem cz_end {l : List UInt8} {i m : Nat} (hn : ¬ (m < 63 ∧ i + m < l.length ∧ (l.getD (i + m) 0).toNat = 0)) (h : cz l i 63 = m + cz l (i + m) (63 - m)) : cz l i 63 = m := by
  rw [h]
  by_cases hm : m < 63
  · rw [show 63 - m = (63 - (m + 1)) + 1 by omega, cz, if_neg (fun h => hn ⟨hm, h.1, h.2⟩)]; rfl
  · rw [show 63 - m = 0 by omega]; rfl
def encC (l : List UInt8) (i : Nat) : List Bool :=
  if h : i < l.length then if (l.getD i 0).toNat = 0 then hi 0 4 4 ++ (hi (cz l (i + 1) 63) 6 6 ++ encC l (i + 1 + cz l (i + 1) 63)) else hi (l.getD i 0).toNat 4 4 ++ encC l (i + 1) else []
termination_by l.length - i
theorem encC_end {l : List UInt8} {i : Nat} (h : ¬ i < l.length) : encC l i = [] := by rw [encC, dif_neg h]
theorem encC_one {l : List UInt8} {i : Nat} (h : i < l.length) (h0 : ¬ (l.getD i 0).toNat = 0) : encC l i = hi (l.getD i 0).toNat 4 4 ++ encC l (i + 1) := by
  conv => lhs; rw [encC, dif_pos h, if_neg h0]
theorem encC_run {l : List UInt8} {i m : Nat} (h : i < l.length) (h0 : (l.getD i 0).toNat = 0) (hm : cz l (i + 1) 63 = m) : encC l i = hi 0 4 4 ++ (hi m 6 6 ++ encC l (i + 1 + m)) := by
  subst hm
  conv => lhs; rw [encC, dif_pos h, if_pos h0]
theorem run_eq {q q' Q : List Bool} {l : List UInt8} {i m : Nat} (hq : q' ++ encC l i = Q) (h : i < l.length) (h0 : (l.getD i 0).toNat = 0) (hm : cz l (i + 1) 63 = m) : q' ++ hi 0 4 4 ++ hi m 6 6 ++ encC l (i + 1 + m) = Q := by
  rw [← hq, encC_run h h0 hm]; simp [List.append_assoc]
theorem one_eq {q' Q : List Bool} {l : List UInt8} {i : Nat} (hq : q' ++ encC l i = Q) (h : i < l.length) (h0 : ¬ (l.getD i 0).toNat = 0) : q' ++ hi (l.getD i 0).toNat 4 4 ++ encC l (i + 1) = Q := by
  rw [← hq, encC_one h h0]; simp [List.append_assoc]
theorem write_d (l : List UInt8) (q : List Bool) (hb : Bor B w0 F 1 (.slice Al l.length cl) l.length (bv l)) (hg : Good l) (hq : q.length ≤ 1000) :
    Does Try.prog B w0 17 [.pointer (some ⟨g, 0, none⟩), .slice Al l.length cl] (Wr g bt A c q F) (fun r L => r = .int .i64 0 ∧ ∃ A' c', L = Wr g bt A' c' (q ++ encC l 0) F) := by
  have hf := hg.1
  have hf1 := hf.1
  refine fn_walk Try.func17 64 rfl rfl rfl [(0, .pointer (some ⟨g, 0, none⟩)), (1, .slice Al l.length cl)] ⟨⟨rfl, rfl⟩, ⟨rfl, rfl⟩, trivial⟩ ?_
  refine vc_seq ?_
  refine vc_region ?_
  refine vl_det (det_assign rfl) rfl ?_
  refine vl_end [(0, _), (1, _)] ⟨rfl, rfl, trivial⟩ ?_
  refine then_next ?_
  refine vc_seq ?_
  refine vc_seq ?_
  refine vc_region ?_
  refine vl_det (det_move rfl) rfl ?_
  refine vl_det (det_ptr_nil Try.underlying41 rfl rfl) rfl ?_
  refine vl_end [(0, _), (1, _), (9, _)] ⟨rfl, rfl, rfl, trivial⟩ ?_
  refine then_next ?_
  refine vc_condU rfl (fun h9 => ?_) (fun h9 => ?_)
  · skip
    exfalso; (simp at h9)
  · skip
    refine vc_skip ?_
    refine then_next ?_
    refine vc_seq ?_
    refine vc_seq ?_
    refine vc_region ?_
    refine vl_det (det_move rfl) rfl ?_
    refine vl_call co11 rfl (check_ok hg (by first | (exact Bor.own (by repeat (first | exact List.Mem.head _ | apply List.Mem.tail))) | (repeat (first | assumption | apply Bor.cons)))) rfl ?_
    rintro _ _ ⟨rfl, hLL⟩
    obtain rfl := hLL.symm
    refine vl_det (det_assign rfl) rfl ?_
    refine vl_end [(0, _), (1, _), (5, _)] ⟨rfl, rfl, rfl, trivial⟩ ?_
    refine then_next ?_
    refine vc_seq ?_
    refine vc_region ?_
    refine vl_det (det_move rfl) rfl ?_
    refine vl_det (det_neq rfl rfl) rfl ?_
    refine vl_end [(0, _), (1, _), (5, _), (13, _)] ⟨rfl, rfl, rfl, rfl, trivial⟩ ?_
    refine then_next ?_
    refine vc_decideU rfl (fun h13 => ?_) (fun h13 => ?_)
    · skip
      exfalso; omega
    · skip
      refine vc_skip ?_
      refine then_next ?_
      refine vc_seq ?_
      refine vc_seq ?_
      refine vc_region ?_
      refine vl_det (det_assign rfl) rfl ?_
      refine vl_end [(0, _), (1, _), (6, _)] ⟨rfl, rfl, rfl, trivial⟩ ?_
      refine then_next ?_
      refine vc_block ?_
      refine vc_loopJ (fun zf zL zm => ∃ (i : Nat) (q' : List Bool) (A' : Option Addr) (c' : Nat), (i ≤ l.length ∧ q'.length ≤ 1000 + 10 * i ∧ q' ++ encC l i = q ++ encC l 0) ∧ l.length - i = zm ∧ Sub zf [(0, .pointer (some ⟨g, 0, none⟩)), (1, .slice Al l.length cl), (6, .int .i64 i)] ∧ Wk zL (Wr g bt A' c' q' F)) _ ⟨0, q, A, c, ⟨Nat.zero_le _, by omega, rfl⟩, rfl, ⟨(by first | rfl | exact int_to (by omega)), (by first | rfl | exact int_to (by omega)), (by first | rfl | exact int_to (by omega)), trivial⟩, .refl _⟩ ?_
      rintro _ _ _ ⟨i, q', A', c', ⟨hik, hql, heq⟩, rfl, hs, hp⟩
      refine vc_weaken _ hs (vc_wk hp ?_)
      clear hs hp
      refine vc_seq ?_
      refine vc_seq ?_
      refine vc_region ?_
      refine vl_det (det_move rfl) rfl ?_
      refine vl_det (det_move rfl) rfl ?_
      refine vl_det (det_len_sl Try.underlying22 rfl) rfl ?_
      refine vl_det (det_lss rfl rfl) rfl ?_
      refine vl_end [(0, _), (1, _), (6, _), (18, _)] ⟨rfl, rfl, rfl, rfl, trivial⟩ ?_
      refine then_next ?_
      refine vc_decideU rfl (fun h18 => ?_) (fun h18 => ?_)
      · skip
        have hu := hf.2 _ (getD_mem (k := i) (by omega) 0)
        have hcl := cz_le l 63 (i + 1)
        refine vc_skip ?_
        refine then_next ?_
        refine vc_block ?_
        refine vc_seq ?_
        refine vc_seq ?_
        refine vc_region ?_
        refine vl_det (det_move rfl) rfl ?_
        refine vl_det (det_move rfl) rfl ?_
        refine vl_det (det_indexAddr Try.underlying22 (by kernel_rfl) rfl rfl rfl (by omega) (by first | (exact Bor.own (by repeat (first | exact List.Mem.head _ | apply List.Mem.tail))) | (repeat (first | assumption | apply Bor.cons)))) rfl ?_
        refine vl_det (det_load_u8 (by kernel_rfl) rfl (by first | (exact Bor.own (by repeat (first | exact List.Mem.head _ | apply List.Mem.tail))) | (repeat (first | assumption | apply Bor.cons))) (by omega)) rfl ?_
        refine vl_det (det_gtr rfl rfl) rfl ?_
        refine vl_end [(0, _), (1, _), (6, _), (23, _)] ⟨rfl, rfl, rfl, rfl, trivial⟩ ?_
        refine then_next ?_
        refine vc_decideU rfl (fun h23 => ?_) (fun h23 => ?_)
        · skip
          refine vc_seq ?_
          refine vc_region ?_
          refine vl_det (det_move rfl) rfl ?_
          refine vl_det (det_move rfl) rfl ?_
          refine vl_det (det_move rfl) rfl ?_
          refine vl_det (det_indexAddr Try.underlying22 (by kernel_rfl) rfl rfl rfl (by omega) (by first | (exact Bor.own (by repeat (first | exact List.Mem.head _ | apply List.Mem.tail))) | (repeat (first | assumption | apply Bor.cons)))) rfl ?_
          refine vl_det (det_load_u8 (by kernel_rfl) rfl (by first | (exact Bor.own (by repeat (first | exact List.Mem.head _ | apply List.Mem.tail))) | (repeat (first | assumption | apply Bor.cons))) (by omega)) rfl ?_
          refine vl_det (det_conv Try.underlying5 Try.underlying39 rfl (w_u64 (by omega) (by omega))) rfl ?_
          refine vl_call co15 rfl (put_d q' (l.getD i 0).toNat (by omega) 4 (by omega) (by omega) (by omega)) rfl ?_
          rintro _ _ ⟨rfl, A30, c30, hLL⟩
          obtain rfl := hLL.symm
          refine vl_end [(0, _), (1, _), (6, _)] ⟨rfl, rfl, rfl, trivial⟩ ?_
          refine then_next ?_
          refine vc_seq ?_
          refine vc_region ?_
          refine vl_det (det_move rfl) rfl ?_
          refine vl_det (det_add rfl rfl (w_i64 (by omega) (by omega))) rfl ?_
          refine vl_det (det_assign rfl) rfl ?_
          refine vl_end [(0, _), (1, _), (6, _)] ⟨rfl, rfl, rfl, trivial⟩ ?_
          refine then_next ?_
          refine vc_exit ?_
          refine then_exit ?_
          refine in_eq ?_
          refine in_loop_ ⟨_, by omega, i + 1, q' ++ hi (l.getD i 0).toNat 4 4, A30, c30, ⟨by omega, by rw [List.length_append, hi_length]; omega, one_eq heq (by omega) (by omega)⟩, rfl, ⟨(by first | rfl | exact int_to (by omega)), (by first | rfl | exact int_to (by omega)), (by first | rfl | exact int_to (by omega)), trivial⟩, .refl _⟩
        · skip
          refine vc_skip ?_
          refine then_next ?_
          refine vc_seq ?_
          refine vc_region ?_
          refine vl_det (det_assign rfl) rfl ?_
          refine vl_end [(0, _), (1, _), (6, _), (7, _)] ⟨rfl, rfl, rfl, rfl, trivial⟩ ?_
          refine then_next ?_
          refine vc_seq ?_
          refine vc_block ?_
          refine vc_loopJ (fun zf zL zm => ∃ (m : Nat), (m ≤ 63 ∧ i + 1 + m ≤ l.length ∧ cz l (i + 1) 63 = m + cz l (i + 1 + m) (63 - m)) ∧ 63 - m = zm ∧ Sub zf [(0, .pointer (some ⟨g, 0, none⟩)), (1, .slice Al l.length cl), (6, .int .i64 i), (7, .int .i64 (m + 1 : Nat))] ∧ Wk zL (Wr g bt A' c' q' F)) _ ⟨0, ⟨by omega, by omega, by simp⟩, rfl, ⟨(by first | rfl | exact int_to (by omega)), (by first | rfl | exact int_to (by omega)), (by first | rfl | exact int_to (by omega)), (by first | rfl | exact int_to (by omega)), trivial⟩, .refl _⟩ ?_
          rintro _ _ _ ⟨m, ⟨hm63, hmi, hcz⟩, rfl, hs, hp⟩
          refine vc_weaken _ hs (vc_wk hp ?_)
          clear hs hp
          refine vc_seq ?_
          refine vc_seq ?_
          refine vc_region ?_
          refine vl_cut 19 51 [(0, _), (1, _), (6, _), (7, _)] (m < 63 ∧ i + 1 + m < l.length ∧ (l.getD (i + 1 + m) 0).toNat = 0) ⟨rfl, rfl, rfl, rfl, trivial⟩ ?_ ?_
          · skip
            refine vl_det (det_move rfl) rfl ?_
            refine vl_det (det_lss rfl rfl) rfl ?_
            refine vl_det (det_move rfl) rfl ?_
            refine vl_guardp rfl rfl rfl (fun h35 => ?_) (fun h35 => ?_)
            · skip
              refine vl_det (det_move rfl) rfl ?_
              refine vl_guard_t rfl rfl ?_
              refine vl_det (det_move rfl) rfl ?_
              refine vl_guard_t rfl rfl ?_
              refine vl_det (det_add rfl rfl (w_i64 (by omega) (by omega))) rfl ?_
              refine vl_guard_t rfl rfl ?_
              refine vl_det (det_move rfl) rfl ?_
              refine vl_guard_t rfl rfl ?_
              refine vl_det (det_len_sl Try.underlying22 rfl) rfl ?_
              refine vl_guard_t rfl rfl ?_
              refine vl_det (det_lss rfl rfl) rfl ?_
              refine vl_det (det_pick_t rfl rfl) rfl ?_
              refine vl_det (det_move rfl) rfl ?_
              refine vl_guardp rfl rfl rfl (fun h43 => ?_) (fun h43 => ?_)
              · skip
                refine vl_det (det_move rfl) rfl ?_
                refine vl_guard_t rfl rfl ?_
                refine vl_det (det_move rfl) rfl ?_
                refine vl_guard_t rfl rfl ?_
                refine vl_det (det_move rfl) rfl ?_
                refine vl_guard_t rfl rfl ?_
                refine vl_det (det_add rfl rfl (w_i64 (by omega) (by omega))) rfl ?_
                refine vl_guard_t rfl rfl ?_
                refine vl_det (det_indexAddr (i := i + 1 + m) Try.underlying22 (by kernel_rfl) rfl rfl (by omega) (by omega) (by first | (exact Bor.own (by repeat (first | exact List.Mem.head _ | apply List.Mem.tail))) | (repeat (first | assumption | apply Bor.cons)))) rfl ?_
                refine vl_guard_t rfl rfl ?_
                refine vl_det (det_load_u8 (by kernel_rfl) rfl (by first | (exact Bor.own (by repeat (first | exact List.Mem.head _ | apply List.Mem.tail))) | (repeat (first | assumption | apply Bor.cons))) (by omega)) rfl ?_
                refine vl_guard_t rfl rfl ?_
                refine vl_det (det_eql rfl rfl) rfl ?_
                refine vl_det (det_pick_t rfl rfl) rfl ?_
                exact vl_cut_end ⟨rfl, rfl, rfl, rfl, trivial⟩ (by first | rfl | exact bool_to_t (by first | omega | (exact ⟨fun h => by omega, fun h => by omega⟩)) | exact bool_to_f (by first | omega | (exact ⟨fun h => by omega, fun h => by omega⟩)) | exact bool_to (by first | omega | (exact ⟨fun h => by omega, fun h => by omega⟩)) | exact bool_to_b (by first | omega | (exact ⟨fun h => by omega, fun h => by omega⟩)))
              · skip
                refine vl_guard_f rfl rfl rfl rfl ?_
                refine vl_guard_f rfl rfl rfl rfl ?_
                refine vl_guard_f rfl rfl rfl rfl ?_
                refine vl_guard_f rfl rfl rfl rfl ?_
                refine vl_guard_f rfl rfl rfl rfl ?_
                refine vl_guard_f rfl rfl rfl rfl ?_
                refine vl_det (det_pick_f rfl rfl) rfl ?_
                exact vl_cut_end ⟨rfl, rfl, rfl, rfl, trivial⟩ (by first | rfl | exact bool_to_t (by first | omega | (exact ⟨fun h => by omega, fun h => by omega⟩)) | exact bool_to_f (by first | omega | (exact ⟨fun h => by omega, fun h => by omega⟩)) | exact bool_to (by first | omega | (exact ⟨fun h => by omega, fun h => by omega⟩)) | exact bool_to_b (by first | omega | (exact ⟨fun h => by omega, fun h => by omega⟩)))
            · skip
              refine vl_guard_f rfl rfl rfl rfl ?_
              refine vl_guard_f rfl rfl rfl rfl ?_
              refine vl_guard_f rfl rfl rfl rfl ?_
              refine vl_guard_f rfl rfl rfl rfl ?_
              refine vl_guard_f rfl rfl rfl rfl ?_
              refine vl_det (det_pick_f rfl rfl) rfl ?_
              refine vl_det (det_move rfl) rfl ?_
              refine vl_guard_f rfl rfl rfl rfl ?_
              refine vl_guard_f rfl rfl rfl rfl ?_
              refine vl_guard_f rfl rfl rfl rfl ?_
              refine vl_guard_f rfl rfl rfl rfl ?_
              refine vl_guard_f rfl rfl rfl rfl ?_
              refine vl_guard_f rfl rfl rfl rfl ?_
              refine vl_guard_f rfl rfl rfl rfl ?_
              refine vl_det (det_pick_f rfl rfl) rfl ?_
              exact vl_cut_end ⟨rfl, rfl, rfl, rfl, trivial⟩ (by first | rfl | exact bool_to_t (by first | omega | (exact ⟨fun h => by omega, fun h => by omega⟩)) | exact bool_to_f (by first | omega | (exact ⟨fun h => by omega, fun h => by omega⟩)) | exact bool_to (by first | omega | (exact ⟨fun h => by omega, fun h => by omega⟩)) | exact bool_to_b (by first | omega | (exact ⟨fun h => by omega, fun h => by omega⟩)))
          · skip
            refine vl_end [(0, _), (1, _), (6, _), (7, _), (51, _)] ⟨rfl, rfl, rfl, rfl, rfl, trivial⟩ ?_
            refine then_next ?_
            refine vc_decideU rfl (fun h51 => ?_) (fun h51 => ?_)
            · skip
              refine vc_skip ?_
              refine then_next ?_
              refine vc_block ?_
              refine vc_region ?_
              refine vl_det (det_move rfl) rfl ?_
              refine vl_det (det_add rfl rfl (w_i64 (by omega) (by omega))) rfl ?_
              refine vl_det (det_assign rfl) rfl ?_
              refine vl_end [(0, _), (1, _), (6, _), (7, _)] ⟨rfl, rfl, rfl, rfl, trivial⟩ ?_
              refine in_normal ?_
              refine in_loop_ ⟨_, by omega, m + 1, ⟨by omega, by omega, cz_go (by omega) (by omega) (by omega) hcz⟩, rfl, ⟨(by first | rfl | exact int_to (by omega)), (by first | rfl | exact int_to (by omega)), (by first | rfl | exact int_to (by omega)), (by first | rfl | exact int_to (by omega)), trivial⟩, .refl _⟩
            · skip
              have hce := cz_end h51 hcz
              refine vc_exit ?_
              refine then_exit ?_
              refine loop_exit ?_
              refine in_eq ?_
              refine then_next ?_
              refine vc_seq ?_
              refine vc_region ?_
              refine vl_det (det_move rfl) rfl ?_
              refine vl_call co15 rfl (put_d q' 0 (by omega) 4 (by omega) (by omega) (by omega)) rfl ?_
              rintro _ _ ⟨rfl, A55, c55, hLL⟩
              obtain rfl := hLL.symm
              refine vl_end [(0, _), (1, _), (6, _), (7, _)] ⟨rfl, rfl, rfl, rfl, trivial⟩ ?_
              refine then_next ?_
              refine vc_seq ?_
              refine vc_region ?_
              refine vl_det (det_move rfl) rfl ?_
              refine vl_det (det_move rfl) rfl ?_
              refine vl_det (det_sub rfl rfl (w_i64 (by omega) (by omega))) rfl ?_
              refine vl_det (det_conv Try.underlying3 Try.underlying39 rfl ((w_u64 (by omega) (by omega)).trans (show _ = ((m : Nat) : Int) by omega))) rfl ?_
              refine vl_call co15 rfl (put_d (q' ++ hi 0 4 4) m (by omega) 6 (by omega) (by omega) (by rw [List.length_append, hi_length]; omega)) rfl ?_
              rintro _ _ ⟨rfl, A60, c60, hLL⟩
              obtain rfl := hLL.symm
              refine vl_end [(0, _), (1, _), (6, _), (7, _)] ⟨rfl, rfl, rfl, rfl, trivial⟩ ?_
              refine then_next ?_
              refine vc_region ?_
              refine vl_det (det_move rfl) rfl ?_
              refine vl_det (det_move rfl) rfl ?_
              refine vl_det (det_add rfl rfl (w_i64 (by omega) (by omega))) rfl ?_
              refine vl_det (det_assign rfl) rfl ?_
              refine vl_end [(0, _), (1, _), (6, _)] ⟨rfl, rfl, rfl, trivial⟩ ?_
              refine in_normal ?_
              refine in_loop_ ⟨_, by omega, i + 1 + m, q' ++ hi 0 4 4 ++ hi m 6 6, A60, c60, ⟨by omega, by rw [List.length_append, List.length_append, hi_length, hi_length]; omega, run_eq (q := q) heq (by omega) (by omega) hce⟩, rfl, ⟨(by first | rfl | exact int_to (by omega)), (by first | rfl | exact int_to (by omega)), (by first | rfl | exact int_to (by omega)), trivial⟩, .refl _⟩
      · skip
        refine vc_exit ?_
        refine then_exit ?_
        refine loop_exit ?_
        refine in_eq ?_
        refine then_next ?_
        refine vc_seq ?_
        refine vc_region ?_
        refine vl_det (det_assign rfl) rfl ?_
        refine vl_end [(4, _)] ⟨rfl, trivial⟩ ?_
        refine then_next ?_
        refine vc_ret ?_
        have heq' : q' = q ++ encC l 0 := by rw [← heq, encC_end (by omega), List.append_nil]
        subst heq'
        refine ret1 rfl rfl ?_
        exact ⟨rfl, A', c', rfl⟩
theorem rwrite_d (l : List UInt8) (q : List Bool) (hb : Bor B w0 F 1 (.slice Al l.length cl) l.length (bv l)) (hg : Good l) (hq : q.length ≤ 1000) :
    Does Try.prog B w0 18 [.pointer (some ⟨g, 0, none⟩), .slice Al l.length cl] (Wf g bt A c q F) (fun r L => r = .int .i64 0 ∧ ∃ A' c', L = Wf g bt A' c' (q ++ encC l 0) F) := by
  have hf := hg.1
  have hf1 := hf.1
  refine fn_walk Try.func18 53 rfl rfl rfl [(0, .pointer (some ⟨g, 0, none⟩)), (1, .slice Al l.length cl)] ⟨⟨rfl, rfl⟩, ⟨rfl, rfl⟩, trivial⟩ ?_
  refine vc_seq ?_
  refine vc_region ?_
  refine vl_det (det_assign rfl) rfl ?_
  refine vl_end [(0, _), (1, _)] ⟨rfl, rfl, trivial⟩ ?_
  refine then_next ?_
  refine vc_seq ?_
  refine vc_seq ?_
  refine vc_region ?_
  refine vl_det (det_move rfl) rfl ?_
  refine vl_call co12 rfl (rcheck_ok hg (by first | (exact Bor.own (by repeat (first | exact List.Mem.head _ | apply List.Mem.tail))) | (repeat (first | assumption | apply Bor.cons)))) rfl ?_
  rintro _ _ ⟨rfl, hLL⟩
  obtain rfl := hLL.symm
  refine vl_det (det_neq rfl rfl) rfl ?_
  refine vl_end [(0, _), (1, _), (9, _)] ⟨rfl, rfl, rfl, trivial⟩ ?_
  refine then_next ?_
  refine vc_decideU rfl (fun h9 => ?_) (fun h9 => ?_)
  · skip
    exfalso; omega
  · skip
    refine vc_skip ?_
    refine then_next ?_
    refine vc_seq ?_
    refine vc_seq ?_
    refine vc_region ?_
    refine vl_det (det_assign rfl) rfl ?_
    refine vl_end [(0, _), (1, _), (5, _)] ⟨rfl, rfl, rfl, trivial⟩ ?_
    refine then_next ?_
    refine vc_block ?_
    refine vc_loopJ (fun zf zL zm => ∃ (i : Nat) (q' : List Bool) (A' : Option Addr) (c' : Nat), (i ≤ l.length ∧ q'.length ≤ 1000 + 10 * i ∧ q' ++ encC l i = q ++ encC l 0) ∧ l.length - i = zm ∧ Sub zf [(0, .pointer (some ⟨g, 0, none⟩)), (1, .slice Al l.length cl), (5, .int .i64 i)] ∧ Wk zL (Wf g bt A' c' q' F)) _ ⟨0, q, A, c, ⟨Nat.zero_le _, by omega, rfl⟩, rfl, ⟨(by first | rfl | exact int_to (by omega)), (by first | rfl | exact int_to (by omega)), (by first | rfl | exact int_to (by omega)), trivial⟩, .refl _⟩ ?_
    rintro _ _ _ ⟨i, q', A', c', ⟨hik, hql, heq⟩, rfl, hs, hp⟩
    refine vc_weaken _ hs (vc_wk hp ?_)
    clear hs hp
    refine vc_seq ?_
    refine vc_seq ?_
    refine vc_region ?_
    refine vl_det (det_move rfl) rfl ?_
    refine vl_det (det_move rfl) rfl ?_
    refine vl_det (det_len_sl Try.underlying22 rfl) rfl ?_
    refine vl_det (det_lss rfl rfl) rfl ?_
    refine vl_end [(0, _), (1, _), (5, _), (13, _)] ⟨rfl, rfl, rfl, rfl, trivial⟩ ?_
    refine then_next ?_
    refine vc_decideU rfl (fun h13 => ?_) (fun h13 => ?_)
    · skip
      have hu := hf.2 _ (getD_mem (k := i) (by omega) 0)
      have hcl := cz_le l 63 (i + 1)
      refine vc_skip ?_
      refine then_next ?_
      refine vc_seq ?_
      refine vc_block ?_
      refine vc_seq ?_
      refine vc_region ?_
      refine vl_det (det_move rfl) rfl ?_
      refine vl_det (det_move rfl) rfl ?_
      refine vl_det (det_move rfl) rfl ?_
      refine vl_det (det_indexAddr Try.underlying22 (by kernel_rfl) rfl rfl rfl (by omega) (by first | (exact Bor.own (by repeat (first | exact List.Mem.head _ | apply List.Mem.tail))) | (repeat (first | assumption | apply Bor.cons)))) rfl ?_
      refine vl_det (det_load_u8 (by kernel_rfl) rfl (by first | (exact Bor.own (by repeat (first | exact List.Mem.head _ | apply List.Mem.tail))) | (repeat (first | assumption | apply Bor.cons))) (by omega)) rfl ?_
      refine vl_det (det_conv Try.underlying5 Try.underlying39 rfl (w_u64 (by omega) (by omega))) rfl ?_
      refine vl_call co16 rfl (rput_d q' (l.getD i 0).toNat (by omega) 4 (by omega) (by omega) (by omega)) rfl ?_
      rintro _ _ ⟨rfl, A22, c22, hLL⟩
      obtain rfl := hLL.symm
      refine vl_end [(0, _), (1, _), (5, _)] ⟨rfl, rfl, rfl, trivial⟩ ?_
      refine then_next ?_
      refine vc_seq ?_
      refine vc_seq ?_
      refine vc_region ?_
      refine vl_det (det_move rfl) rfl ?_
      refine vl_det (det_move rfl) rfl ?_
      refine vl_det (det_indexAddr Try.underlying22 (by kernel_rfl) rfl rfl rfl (by omega) (by first | (exact Bor.own (by repeat (first | exact List.Mem.head _ | apply List.Mem.tail))) | (repeat (first | assumption | apply Bor.cons)))) rfl ?_
      refine vl_det (det_load_u8 (by kernel_rfl) rfl (by first | (exact Bor.own (by repeat (first | exact List.Mem.head _ | apply List.Mem.tail))) | (repeat (first | assumption | apply Bor.cons))) (by omega)) rfl ?_
      refine vl_det (det_gtr rfl rfl) rfl ?_
      refine vl_end [(0, _), (1, _), (5, _), (27, _)] ⟨rfl, rfl, rfl, rfl, trivial⟩ ?_
      refine then_next ?_
      refine vc_decideU rfl (fun h27 => ?_) (fun h27 => ?_)
      · skip
        refine vc_exit ?_
        refine then_exit ?_
        refine in_eq ?_
        refine then_next ?_
        refine vc_region ?_
        refine vl_det (det_move rfl) rfl ?_
        refine vl_det (det_add rfl rfl (w_i64 (by omega) (by omega))) rfl ?_
        refine vl_det (det_assign rfl) rfl ?_
        refine vl_end [(0, _), (1, _), (5, _)] ⟨rfl, rfl, rfl, trivial⟩ ?_
        refine in_loop_ ⟨_, by omega, i + 1, q' ++ hi (l.getD i 0).toNat 4 4, A22, c22, ⟨by omega, by rw [List.length_append, hi_length]; omega, one_eq heq (by omega) (by omega)⟩, rfl, ⟨(by first | rfl | exact int_to (by omega)), (by first | rfl | exact int_to (by omega)), (by first | rfl | exact int_to (by omega)), trivial⟩, .refl _⟩
      · skip
        have hz0 : (l.getD i 0).toNat = 0 := by omega
        refine vc_skip ?_
        refine then_next ?_
        refine vc_seq ?_
        refine vc_region ?_
        refine vl_det (det_assign rfl) rfl ?_
        refine vl_end [(0, _), (1, _), (5, _), (6, _)] ⟨rfl, rfl, rfl, rfl, trivial⟩ ?_
        refine then_next ?_
        refine vc_seq ?_
        refine vc_block ?_
        refine vc_loopJ (fun zf zL zm => ∃ (m : Nat), (m ≤ 63 ∧ i + 1 + m ≤ l.length ∧ cz l (i + 1) 63 = m + cz l (i + 1 + m) (63 - m)) ∧ 63 - m = zm ∧ Sub zf [(0, .pointer (some ⟨g, 0, none⟩)), (1, .slice Al l.length cl), (5, .int .i64 (i + m : Nat)), (6, .int .i64 m)] ∧ Wk zL (Wf g bt A22 c22 (q' ++ hi (l.getD i 0).toNat 4 4) F)) _ ⟨0, ⟨by omega, by omega, by simp⟩, rfl, ⟨(by first | rfl | exact int_to (by omega)), (by first | rfl | exact int_to (by omega)), (by first | rfl | exact int_to (by omega)), (by first | rfl | exact int_to (by omega)), trivial⟩, .refl _⟩ ?_
        rintro _ _ _ ⟨m, ⟨hm63, hmi, hcz⟩, rfl, hs, hp⟩
        refine vc_weaken _ hs (vc_wk hp ?_)
        clear hs hp
        refine vc_seq ?_
        refine vc_seq ?_
        refine vc_region ?_
        refine vl_cut 17 44 [(0, _), (1, _), (5, _), (6, _)] (m < 63 ∧ i + 1 + m < l.length ∧ (l.getD (i + 1 + m) 0).toNat = 0) ⟨rfl, rfl, rfl, rfl, trivial⟩ ?_ ?_
        · skip
          refine vl_det (det_move rfl) rfl ?_
          refine vl_det (det_add rfl rfl (w_i64 (by omega) (by omega))) rfl ?_
          refine vl_det (det_move rfl) rfl ?_
          refine vl_det (det_len_sl Try.underlying22 rfl) rfl ?_
          refine vl_det (det_lss rfl rfl) rfl ?_
          refine vl_det (det_move rfl) rfl ?_
          refine vl_guardp rfl rfl rfl (fun h33 => ?_) (fun h33 => ?_)
          · skip
            refine vl_det (det_move rfl) rfl ?_
            refine vl_guard_t rfl rfl ?_
            refine vl_det (det_move rfl) rfl ?_
            refine vl_guard_t rfl rfl ?_
            refine vl_det (det_add rfl rfl (w_i64 (by omega) (by omega))) rfl ?_
            refine vl_guard_t rfl rfl ?_
            refine vl_det (det_indexAddr (i := i + 1 + m) Try.underlying22 (by kernel_rfl) rfl rfl (by omega) (by omega) (by first | (exact Bor.own (by repeat (first | exact List.Mem.head _ | apply List.Mem.tail))) | (repeat (first | assumption | apply Bor.cons)))) rfl ?_
            refine vl_guard_t rfl rfl ?_
            refine vl_det (det_load_u8 (by kernel_rfl) rfl (by first | (exact Bor.own (by repeat (first | exact List.Mem.head _ | apply List.Mem.tail))) | (repeat (first | assumption | apply Bor.cons))) (by omega)) rfl ?_
            refine vl_guard_t rfl rfl ?_
            refine vl_det (det_eql rfl rfl) rfl ?_
            refine vl_det (det_pick_t rfl rfl) rfl ?_
            refine vl_det (det_move rfl) rfl ?_
            refine vl_guardp rfl rfl rfl (fun h41 => ?_) (fun h41 => ?_)
            · skip
              refine vl_det (det_move rfl) rfl ?_
              refine vl_guard_t rfl rfl ?_
              refine vl_det (det_lss rfl rfl) rfl ?_
              refine vl_det (det_pick_t rfl rfl) rfl ?_
              exact vl_cut_end ⟨rfl, rfl, rfl, rfl, trivial⟩ (by first | rfl | exact bool_to_t (by first | omega | (exact ⟨fun h => by omega, fun h => by omega⟩)) | exact bool_to_f (by first | omega | (exact ⟨fun h => by omega, fun h => by omega⟩)) | exact bool_to (by first | omega | (exact ⟨fun h => by omega, fun h => by omega⟩)) | exact bool_to_b (by first | omega | (exact ⟨fun h => by omega, fun h => by omega⟩)))
            · skip
              refine vl_guard_f rfl rfl rfl rfl ?_
              refine vl_det (det_pick_f rfl rfl) rfl ?_
              exact vl_cut_end ⟨rfl, rfl, rfl, rfl, trivial⟩ (by first | rfl | exact bool_to_t (by first | omega | (exact ⟨fun h => by omega, fun h => by omega⟩)) | exact bool_to_f (by first | omega | (exact ⟨fun h => by omega, fun h => by omega⟩)) | exact bool_to (by first | omega | (exact ⟨fun h => by omega, fun h => by omega⟩)) | exact bool_to_b (by first | omega | (exact ⟨fun h => by omega, fun h => by omega⟩)))
          · skip
            refine vl_guard_f rfl rfl rfl rfl ?_
            refine vl_guard_f rfl rfl rfl rfl ?_
            refine vl_guard_f rfl rfl rfl rfl ?_
            refine vl_guard_f rfl rfl rfl rfl ?_
            refine vl_guard_f rfl rfl rfl rfl ?_
            refine vl_det (det_pick_f rfl rfl) rfl ?_
            refine vl_det (det_move rfl) rfl ?_
            refine vl_guard_f rfl rfl rfl rfl ?_
            refine vl_guard_f rfl rfl rfl rfl ?_
            refine vl_det (det_pick_f rfl rfl) rfl ?_
            exact vl_cut_end ⟨rfl, rfl, rfl, rfl, trivial⟩ (by first | rfl | exact bool_to_t (by first | omega | (exact ⟨fun h => by omega, fun h => by omega⟩)) | exact bool_to_f (by first | omega | (exact ⟨fun h => by omega, fun h => by omega⟩)) | exact bool_to (by first | omega | (exact ⟨fun h => by omega, fun h => by omega⟩)) | exact bool_to_b (by first | omega | (exact ⟨fun h => by omega, fun h => by omega⟩)))
        · skip
          refine vl_end [(0, _), (1, _), (5, _), (6, _), (44, _)] ⟨rfl, rfl, rfl, rfl, rfl, trivial⟩ ?_
          refine then_next ?_
          refine vc_decideU rfl (fun h44 => ?_) (fun h44 => ?_)
          · skip
            refine vc_skip ?_
            refine then_next ?_
            refine vc_block ?_
            refine vc_seq ?_
            refine vc_region ?_
            refine vl_det (det_move rfl) rfl ?_
            refine vl_det (det_add rfl rfl (w_i64 (by omega) (by omega))) rfl ?_
            refine vl_det (det_assign rfl) rfl ?_
            refine vl_end [(0, _), (1, _), (5, _), (6, _)] ⟨rfl, rfl, rfl, rfl, trivial⟩ ?_
            refine then_next ?_
            refine vc_region ?_
            refine vl_det (det_move rfl) rfl ?_
            refine vl_det (det_add rfl rfl (w_i64 (by omega) (by omega))) rfl ?_
            refine vl_det (det_assign rfl) rfl ?_
            refine vl_end [(0, _), (1, _), (5, _), (6, _)] ⟨rfl, rfl, rfl, rfl, trivial⟩ ?_
            refine in_normal ?_
            refine in_loop_ ⟨_, by omega, m + 1, ⟨by omega, by omega, cz_go (by omega) (by omega) (by omega) hcz⟩, rfl, ⟨(by first | rfl | exact int_to (by omega)), (by first | rfl | exact int_to (by omega)), (by first | rfl | exact int_to (by omega)), (by first | rfl | exact int_to (by omega)), trivial⟩, .refl _⟩
          · skip
            have hce := cz_end h44 hcz
            refine vc_exit ?_
            refine then_exit ?_
            refine loop_exit ?_
            refine in_eq ?_
            refine then_next ?_
            refine vc_region ?_
            refine vl_det (det_move rfl) rfl ?_
            refine vl_det (det_move rfl) rfl ?_
            refine vl_det (det_conv Try.underlying3 Try.underlying39 rfl (w_u64 (by omega) (by omega))) rfl ?_
            refine vl_call co16 rfl (rput_d (q' ++ hi (l.getD i 0).toNat 4 4) m (by omega) 6 (by omega) (by omega) (by rw [List.length_append, hi_length]; omega)) rfl ?_
            rintro _ _ ⟨rfl, A52, c52, hLL⟩
            obtain rfl := hLL.symm
            refine vl_end [(0, _), (1, _), (5, _)] ⟨rfl, rfl, rfl, trivial⟩ ?_
            refine in_normal ?_
            refine then_next ?_
            refine vc_region ?_
            refine vl_det (det_move rfl) rfl ?_
            refine vl_det (det_add rfl rfl (w_i64 (by omega) (by omega))) rfl ?_
            refine vl_det (det_assign rfl) rfl ?_
            refine vl_end [(0, _), (1, _), (5, _)] ⟨rfl, rfl, rfl, trivial⟩ ?_
            refine in_loop_ ⟨_, by omega, i + 1 + m, q' ++ hi (l.getD i 0).toNat 4 4 ++ hi m 6 6, A52, c52, ⟨by omega, by rw [List.length_append, List.length_append, hi_length, hi_length]; omega, by rw [hz0]; exact run_eq (q := q) heq (by omega) (by omega) hce⟩, rfl, ⟨(by first | rfl | exact int_to (by omega)), (by first | rfl | exact int_to (by omega)), (by first | rfl | exact int_to (by omega)), trivial⟩, .refl _⟩
    · skip
      refine vc_exit ?_
      refine then_exit ?_
      refine loop_exit ?_
      refine in_eq ?_
      refine then_next ?_
      refine vc_seq ?_
      refine vc_region ?_
      refine vl_det (det_assign rfl) rfl ?_
      refine vl_end [(4, _)] ⟨rfl, trivial⟩ ?_
      refine then_next ?_
      refine vc_ret ?_
      have heq' : q' = q ++ encC l 0 := by rw [← heq, encC_end (by omega), List.append_nil]
      subst heq'
      refine ret1 rfl rfl ?_
      exact ⟨rfl, A', c', rfl⟩
theorem writebad_d (l : List UInt8) (hb : Bor B w0 F 1 (.slice Al l.length cl) l.length (bv l)) (hg : ¬ Good l) :
    Does Try.prog B w0 17 [.pointer (some ⟨g, 0, none⟩), .slice Al l.length cl] F (fun r L => r = .int .i64 7 ∧ L = F) := by
  refine fn_walk Try.func17 64 rfl rfl rfl [(0, .pointer (some ⟨g, 0, none⟩)), (1, .slice Al l.length cl)] ⟨⟨rfl, rfl⟩, ⟨rfl, rfl⟩, trivial⟩ ?_
  refine vc_seq ?_
  refine vc_region ?_
  refine vl_det (det_assign rfl) rfl ?_
  refine vl_end [(0, _), (1, _)] ⟨rfl, rfl, trivial⟩ ?_
  refine then_next ?_
  refine vc_seq ?_
  refine vc_seq ?_
  refine vc_region ?_
  refine vl_det (det_move rfl) rfl ?_
  refine vl_det (det_ptr_nil Try.underlying41 rfl rfl) rfl ?_
  refine vl_end [(0, _), (1, _), (9, _)] ⟨rfl, rfl, rfl, trivial⟩ ?_
  refine then_next ?_
  refine vc_condU rfl (fun h9 => ?_) (fun h9 => ?_)
  · skip
    exfalso; (simp at h9)
  · skip
    refine vc_skip ?_
    refine then_next ?_
    refine vc_seq ?_
    refine vc_seq ?_
    refine vc_region ?_
    refine vl_det (det_move rfl) rfl ?_
    refine vl_call co11 rfl (check_no hg (by first | (exact Bor.own (by repeat (first | exact List.Mem.head _ | apply List.Mem.tail))) | (repeat (first | assumption | apply Bor.cons)))) rfl ?_
    rintro _ _ ⟨rfl, hLL⟩
    obtain rfl := hLL.symm
    refine vl_det (det_assign rfl) rfl ?_
    refine vl_end [(0, _), (1, _), (5, _)] ⟨rfl, rfl, rfl, trivial⟩ ?_
    refine then_next ?_
    refine vc_seq ?_
    refine vc_region ?_
    refine vl_det (det_move rfl) rfl ?_
    refine vl_det (det_neq rfl rfl) rfl ?_
    refine vl_end [(0, _), (1, _), (5, _), (13, _)] ⟨rfl, rfl, rfl, rfl, trivial⟩ ?_
    refine then_next ?_
    refine vc_decideU rfl (fun h13 => ?_) (fun h13 => ?_)
    · skip
      refine vc_seq ?_
      refine vc_region ?_
      refine vl_det (det_move rfl) rfl ?_
      refine vl_det (det_assign rfl) rfl ?_
      refine vl_end [(4, _)] ⟨rfl, trivial⟩ ?_
      refine then_next ?_
      refine vc_ret ?_
      refine then_ret ?_
      refine ret1 rfl rfl ?_
      exact ⟨rfl, rfl⟩
    · skip
      exfalso; omega
theorem rwritebad_d (l : List UInt8) (hb : Bor B w0 F 1 (.slice Al l.length cl) l.length (bv l)) (hg : ¬ Good l) :
    Does Try.prog B w0 18 [.pointer (some ⟨g, 0, none⟩), .slice Al l.length cl] F (fun r L => r = .int .i64 7 ∧ L = F) := by
  refine fn_walk Try.func18 53 rfl rfl rfl [(0, .pointer (some ⟨g, 0, none⟩)), (1, .slice Al l.length cl)] ⟨⟨rfl, rfl⟩, ⟨rfl, rfl⟩, trivial⟩ ?_
  refine vc_seq ?_
  refine vc_region ?_
  refine vl_det (det_assign rfl) rfl ?_
  refine vl_end [(0, _), (1, _)] ⟨rfl, rfl, trivial⟩ ?_
  refine then_next ?_
  refine vc_seq ?_
  refine vc_seq ?_
  refine vc_region ?_
  refine vl_det (det_move rfl) rfl ?_
  refine vl_call co12 rfl (rcheck_no hg (by first | (exact Bor.own (by repeat (first | exact List.Mem.head _ | apply List.Mem.tail))) | (repeat (first | assumption | apply Bor.cons)))) rfl ?_
  rintro _ _ ⟨rfl, hLL⟩
  obtain rfl := hLL.symm
  refine vl_det (det_neq rfl rfl) rfl ?_
  refine vl_end [(0, _), (1, _), (9, _)] ⟨rfl, rfl, rfl, trivial⟩ ?_
  refine then_next ?_
  refine vc_decideU rfl (fun h9 => ?_) (fun h9 => ?_)
  · skip
    refine vc_seq ?_
    refine vc_region ?_
    refine vl_det (det_assign rfl) rfl ?_
    refine vl_end [(4, _)] ⟨rfl, trivial⟩ ?_
    refine then_next ?_
    refine vc_ret ?_
    refine then_ret ?_
    refine ret1 rfl rfl ?_
    exact ⟨rfl, rfl⟩
  · skip
    exfalso; omega
theorem writenil_d (l : List UInt8) :
    Does Try.prog B w0 17 [.pointer none, .slice Al l.length cl] F (fun r L => r = .int .i64 13 ∧ L = F) := by
  refine fn_walk Try.func17 64 rfl rfl rfl [(0, .pointer none), (1, .slice Al l.length cl)] ⟨⟨rfl, rfl⟩, ⟨rfl, rfl⟩, trivial⟩ ?_
  refine vc_seq ?_
  refine vc_region ?_
  refine vl_det (det_assign rfl) rfl ?_
  refine vl_end [(0, _), (1, _)] ⟨rfl, rfl, trivial⟩ ?_
  refine then_next ?_
  refine vc_seq ?_
  refine vc_seq ?_
  refine vc_region ?_
  refine vl_det (det_move rfl) rfl ?_
  refine vl_det (det_ptr_nil Try.underlying41 rfl rfl) rfl ?_
  refine vl_end [(0, _), (1, _), (9, _)] ⟨rfl, rfl, rfl, trivial⟩ ?_
  refine then_next ?_
  refine vc_condU rfl (fun h9 => ?_) (fun h9 => ?_)
  · skip
    refine vc_seq ?_
    refine vc_region ?_
    refine vl_det (det_assign rfl) rfl ?_
    refine vl_end [(4, _)] ⟨rfl, trivial⟩ ?_
    refine then_next ?_
    refine vc_ret ?_
    refine then_ret ?_
    refine ret1 rfl rfl ?_
    exact ⟨rfl, rfl⟩
  · skip
    exfalso; (simp at h9)
/-- both together: the error and the row behind it -/
def wE (l : List UInt8) : Int := if Good l then 0 else 7
def wQ (q : List Bool) (l : List UInt8) : List Bool := if Good l then q ++ encC l 0 else q
theorem write_c (l : List UInt8) (q : List Bool) (hb : Bor B w0 F 1 (.slice Al l.length cl) l.length (bv l)) (hq : q.length ≤ 1000) :
    Does Try.prog B w0 17 [.pointer (some ⟨g, 0, none⟩), .slice Al l.length cl] (Wr g bt A c q F) (fun r L => r = .int .i64 (wE l) ∧ ∃ A' c', L = Wr g bt A' c' (wQ q l) F) := by
  unfold wE wQ
  split
  · exact write_d l q hb (by assumption) hq
  · exact (writebad_d l hb.cons.cons (by assumption)).mono fun r L ⟨hr, hL⟩ => ⟨hr, A, c, hL⟩
theorem rwrite_c (l : List UInt8) (q : List Bool) (hb : Bor B w0 F 1 (.slice Al l.length cl) l.length (bv l)) (hq : q.length ≤ 1000) :
    Does Try.prog B w0 18 [.pointer (some ⟨g, 0, none⟩), .slice Al l.length cl] (Wf g bt A c q F) (fun r L => r = .int .i64 (wE l) ∧ ∃ A' c', L = Wf g bt A' c' (wQ q l) F) := by
  unfold wE wQ
  split
  · exact rwrite_d l q hb (by assumption) hq
  · exact (rwritebad_d l hb.cons.cons (by assumption)).mono fun r L ⟨hr, hL⟩ => ⟨hr, A, c, hL⟩
theorem encC_len (l : List UInt8) : ∀ n i, l.length - i ≤ n → (encC l i).length ≤ 10 * n
  | 0, i, h => by rw [encC_end (by omega)]; simp
  | n + 1, i, h => by
    by_cases hi' : i < l.length
    · by_cases h0 : (l.getD i 0).toNat = 0
      · rw [encC_run hi' h0 rfl, List.length_append, List.length_append, hi_length, hi_length]
        have := encC_len l n (i + 1 + cz l (i + 1) 63) (by omega)
        omega
      · rw [encC_one hi' h0, List.length_append, hi_length]
        have := encC_len l n (i + 1) (by omega)
        omega
    · rw [encC_end hi']; simp
theorem wQ_len (q : List Bool) (l : List UInt8) : (wQ q l).length ≤ q.length + 10 * l.length := by
  unfold wQ
  split
  · have := encC_len l l.length 0 (by omega)
    rw [List.length_append]; omega
  · omega
end Go.Proofs.Ytpdnohllbijonaa
