/-
  A dictionary's next bucket is read, by frames. Conditions: the bucket's bytes are shorter than 2^40.
-/
import Derived.Test.YtbkaoncopohdbaaDictS
namespace Go.Proofs.Ytbkaoncopohdbaa
open Go.RowKit
set_option linter.unusedVariables false
set_option maxRecDepth 20000
variable {B : Nat} {w0 : World} {F : List Ch} {A A1 A2 : Option Addr} {n c c1 c2 g : Nat} {s : Cs}
theorem next_d {was : Txt} (first : Bool) (hw : was.length ≤ 1000) (ho : CsOk s) (hb : Bor B w0 F 1 (.slice A s.b.length c) s.b.length (bv s.b)) :
    Does Try.prog B w0 55 [.pointer (some ⟨g, 0, none⟩), .string ⟨was.toArray⟩, .bool first] (Cv g A c s :: F) (fun r L => r = .string ⟨(nxT s was first).toArray⟩ ∧ L = Cv g A c (nxC s was first) :: F) := by
  cases first
  · exact next2_d hw ho hb
  · exact next1_d hw ho hb
theorem nx_ok {was : Txt} {first : Bool} (h : (nxC s was first).e = 0) : (nxS s was first).e = 0 ∧ ¬ nxBad s was first ∧ nxC s was first = nxS s was first ∧ nxT s was first = nxX s was first := by
  unfold nxC at h ⊢
  by_cases h1 : (nxS s was first).e ≠ 0
  · rw [if_pos h1] at h; exact absurd h h1
  · rw [if_neg h1] at h ⊢
    have h1' : (nxS s was first).e = 0 := by simpa using h1
    by_cases h2 : nxBad s was first
    · rw [if_pos h2] at h
      unfold Cs.failed at h
      rw [if_pos h1'] at h
      exact absurd h (by simp)
    · rw [if_neg h2]
      exact ⟨h1', h2, rfl, if_neg h1⟩
theorem nx_may {was : Txt} {first : Bool} (h : (nxC s was first).e = 0) : mayT was (nxT s was first) := by
  obtain ⟨_, h2, _, h4⟩ := nx_ok h
  rw [h4]
  exact Classical.not_not.1 fun h => h2 (.inr (.inl h))
/-- a bucket's texts behind those that there are, or the error -/
def fillF : Nat → Bool → Cs → List Txt → List Txt × Int
  | 0, _, s, out => if s.end'.e ≠ 0 then ([], s.end'.e) else (out, 0)
  | k + 1, first, s, out => if (nxC s (prvT out out.length) first).e ≠ 0 then ([], (nxC s (prvT out out.length) first).e) else fillF k false (nxC s (prvT out out.length) first) (out ++ [nxT s (prvT out out.length) first])
def Le25 (l : List Txt) : Prop := ∀ x ∈ l, x.length ≤ 25
theorem Le25.prv {l : List Txt} (h : Le25 l) (i : Nat) : (prvT l i).length ≤ 25 := by
  unfold prvT
  split
  · simp
  · rw [List.getD_eq_getElem?_getD]
    by_cases hi : i - 1 < l.length
    · rw [List.getElem?_eq_getElem hi]; exact h _ (List.getElem_mem _)
    · rw [List.getElem?_eq_none (by omega)]; simp
theorem Le25.snoc {l : List Txt} (h : Le25 l) {x : Txt} (hx : x.length ≤ 25) : Le25 (l ++ [x]) := by
  intro y hy
  simp only [List.mem_append, List.mem_singleton] at hy
  rcases hy with hy | rfl
  · exact h y hy
  · exact hx
abbrev Dd (g : Nat) (sz : Int) (A1 : Option Addr) (c1 : Nat) (A2 : Option Addr) (c2 : Nat) (o h : List Txt) (F : List Ch) : List Ch :=
  .blk g 65 [.slice A1 o.length c1, .int .i64 sz, .slice A2 h.length c2] :: .own 9 1 A1 o.length c1 (strs o) :: .own 9 1 A2 h.length c2 (strs h) :: F
theorem getD_app {l r : List Txt} {i : Nat} (h : i < l.length) : (l ++ r).getD i [] = l.getD i [] := by simp [List.getD, List.getElem?_append_left h]
theorem fill_d {b : List UInt8} {m : Nat} {sz : Int} {o0 h0 : List Txt} (hm : 1 ≤ m) (hm2 : m ≤ 64) (hb : Bor B w0 (Dd g sz A1 c1 A2 c2 o0 h0 F) 1 (.slice A b.length c) b.length (bv b)) (hbl : b.length ≤ 1099511627776) (h25 : Le25 o0) (hol : o0.length ≤ 2000000) (hhl : h0.length ≤ 2000000) :
    Does Try.prog B w0 40 [.pointer (some ⟨g, 0, none⟩), .slice A b.length c, .int .i64 m] (Dd g sz A1 c1 A2 c2 o0 h0 F) (fun r L => ∃ P1 p1 P2 p2 o h, r = .int .i64 (fillF m true ⟨b, 0, 0⟩ o0).2 ∧ L = Dd g sz P1 p1 P2 p2 o h F ∧ ((fillF m true ⟨b, 0, 0⟩ o0).2 = 0 → o = (fillF m true ⟨b, 0, 0⟩ o0).1 ∧ h = h0 ++ [o.getD o0.length []] ∧ Le25 o ∧ o.length = o0.length + m)) := by
  obtain ⟨G, hG⟩ : ∃ G, G = fillF m true ⟨b, 0, 0⟩ o0 := ⟨_, rfl⟩
  rw [← hG]
  refine fn_walk Try.func40 76 rfl rfl rfl [(0, .pointer (some ⟨g, 0, none⟩)), (1, .slice A b.length c), (2, .int .i64 m)] ⟨⟨rfl, rfl⟩, ⟨rfl, rfl⟩, ⟨rfl, rfl⟩, trivial⟩ ?_
  refine vc_seq ?_
  refine vc_region ?_
  refine vl_det (det_assign rfl) rfl ?_
  refine vl_end [(0, _), (1, _), (2, _)] ⟨rfl, rfl, rfl, trivial⟩ ?_
  refine then_next ?_
  refine vc_seq ?_
  refine vc_region ?_
  refine vl_det (det_move rfl) rfl ?_
  refine vl_call co36 rfl (cnew_d hb hbl) rfl ?_
  rintro _ _ ⟨g13, A13, c13, rfl, hLL⟩
  obtain rfl := hLL.symm
  refine vl_det (det_assign rfl) rfl ?_
  refine vl_end [(0, _), (2, _), (7, _)] ⟨rfl, rfl, rfl, trivial⟩ ?_
  refine then_next ?_
  refine vc_seq ?_
  refine vc_seq ?_
  refine vc_region ?_
  refine vl_det (det_move rfl) rfl ?_
  refine vl_det (det_move rfl) rfl ?_
  refine vl_end [(0, _), (7, _), (14, _), (15, _)] ⟨rfl, rfl, rfl, rfl, trivial⟩ ?_
  refine then_next ?_
  refine vc_block ?_
  refine vc_loopJ (fun zf zL zm => ∃ (i : Nat) (s : Cs) (o h : List Txt) (P1 : Option Addr) (p1 : Nat) (P2 : Option Addr) (p2 : Nat), (i ≤ m ∧ CsOk s ∧ o.length = o0.length + i ∧ Le25 o ∧ (i = 0 → h = h0) ∧ (0 < i → h = h0 ++ [o.getD o0.length []]) ∧ fillF (m - i) (decide ((i : Int) = 0)) s o = G) ∧ m - i = zm ∧ Sub zf [(0, .pointer (some ⟨g, 0, none⟩)), (7, .pointer (some ⟨g13, 0, none⟩)), (14, .int .i64 m), (15, .int .i64 i)] ∧ Wk zL (Cv g13 A13 c13 s :: .own 5 1 A13 s.b.length c13 (bv s.b) :: Dd g sz P1 p1 P2 p2 o h F)) _ ⟨0, ⟨b, 0, 0⟩, o0, h0, A1, c1, A2, c2, ⟨Nat.zero_le _, ⟨Nat.zero_le _, hbl⟩, rfl, h25, fun _ => rfl, fun h => absurd h (by omega), hG.symm⟩, rfl, ⟨(by first | rfl | exact int_to (by omega) | exact sl_to (by omega)), (by first | rfl | exact int_to (by omega) | exact sl_to (by omega)), (by first | rfl | exact int_to (by omega) | exact sl_to (by omega)), (by first | rfl | exact int_to (by omega) | exact sl_to (by omega)), trivial⟩, .refl _⟩ ?_
  rintro _ _ _ ⟨i, s, o, h, P1, p1, P2, p2, ⟨hi, ho, hoo, ho25, hh0, hh1, hF⟩, rfl, hs, hp⟩
  refine vc_weaken _ hs (vc_wk hp ?_)
  clear hs hp
  refine vc_seq ?_
  refine vc_region ?_
  refine vl_det (det_lss rfl rfl) rfl ?_
  refine vl_end [(0, _), (7, _), (14, _), (15, _), (16, _)] ⟨rfl, rfl, rfl, rfl, rfl, trivial⟩ ?_
  refine then_next ?_
  refine vc_seq ?_
  refine vc_decideU rfl (fun h16 => ?_) (fun h16 => ?_)
  · skip
    obtain ⟨k, hk⟩ : ∃ k, m - i = k + 1 := ⟨m - i - 1, by omega⟩
    rw [hk, fillF] at hF
    have hpl := ho25.prv o.length
    have hhl2 : h.length ≤ 2000001 := by
      by_cases h0i : i = 0
      · rw [hh0 h0i]; omega
      · rw [hh1 (by omega)]; simp; omega
    refine vc_skip ?_
    refine then_next ?_
    refine vc_seq ?_
    refine vc_block ?_
    refine vc_seq ?_
    refine vc_region ?_
    refine vl_det (det_move rfl) rfl ?_
    refine vl_det (det_assign rfl) rfl ?_
    refine vl_end [(0, _), (7, _), (8, _), (14, _), (15, _)] ⟨rfl, rfl, rfl, rfl, rfl, trivial⟩ ?_
    refine then_next ?_
    refine vc_seq ?_
    refine vc_region ?_
    refine vl_det (det_assign rfl) rfl ?_
    refine vl_end [(0, _), (7, _), (8, _), (9, _), (14, _), (15, _)] ⟨rfl, rfl, rfl, rfl, rfl, rfl, trivial⟩ ?_
    refine then_next ?_
    refine vc_seqJ (fun zf zL => Sub zf [(0, .pointer (some ⟨g, 0, none⟩)), (7, .pointer (some ⟨g13, 0, none⟩)), (8, .int .i64 i), (9, .string ⟨(prvT o o.length).toArray⟩), (14, .int .i64 m), (15, .int .i64 i)] ∧ Wk zL (Cv g13 A13 c13 s :: .own 5 1 A13 s.b.length c13 (bv s.b) :: Dd g sz P1 p1 P2 p2 o h F)) ?_ ?_
    · skip
      refine vc_seq ?_
      refine vc_region ?_
      refine vl_det (det_move rfl) rfl ?_
      refine vl_det (det_nilCheck rfl) rfl ?_
      refine vl_det (det_fieldAddr_ Try.underlying65 rfl (by kernel_rfl) rfl rfl) rfl ?_
      refine vl_det (det_fieldAddr_ Try.underlying63 rfl (by kernel_rfl) rfl rfl) rfl ?_
      refine vl_det (det_load_blk (by kernel_rfl) rfl (by repeat (first | exact .hd | apply Sel.tl)) rfl) rfl ?_
      refine vl_det (det_len_sl Try.underlying22 rfl) rfl ?_
      refine vl_det (det_gtr rfl rfl) rfl ?_
      refine vl_end [(0, _), (7, _), (8, _), (9, _), (14, _), (15, _), (24, _)] ⟨rfl, rfl, rfl, rfl, rfl, rfl, rfl, trivial⟩ ?_
      refine then_next ?_
      refine vc_decideU rfl (fun h24 => ?_) (fun h24 => ?_)
      · skip
        have hlst : o.getD (o.length - 1) [] = prvT o o.length := (if_neg (by omega)).symm
        refine vq_region (by kernel_rfl) (by kernel_rfl) ?_
        refine vq_det (det_move rfl) rfl ?_
        refine vq_det (det_nilCheck rfl) rfl ?_
        refine vq_det (det_fieldAddr_ Try.underlying65 rfl (by kernel_rfl) rfl rfl) rfl ?_
        refine vq_det (det_fieldAddr_ Try.underlying63 rfl (by kernel_rfl) rfl rfl) rfl ?_
        refine vq_det (det_load_blk (by kernel_rfl) rfl (by repeat (first | exact .hd | apply Sel.tl)) rfl) rfl ?_
        refine vq_det (det_move rfl) rfl ?_
        refine vq_det (det_nilCheck rfl) rfl ?_
        refine vq_det (det_fieldAddr_ Try.underlying65 rfl (by kernel_rfl) rfl rfl) rfl ?_
        refine vq_det (det_fieldAddr_ Try.underlying63 rfl (by kernel_rfl) rfl rfl) rfl ?_
        refine vq_det (det_load_blk (by kernel_rfl) rfl (by repeat (first | exact .hd | apply Sel.tl)) rfl) rfl ?_
        refine vq_det (det_len_sl Try.underlying22 rfl) rfl ?_
        refine vq_det (det_sub rfl rfl (w_i64 (by omega) (by omega))) rfl ?_
        refine vq_det (det_indexAddr (i := o.length - 1) (size := 1) Try.underlying22 (by kernel_rfl) rfl rfl (by omega) (by omega) (by first | (exact Bor.own (by repeat (first | exact List.Mem.head _ | apply List.Mem.tail))) | (repeat (first | assumption | apply Bor.cons)))) rfl ?_
        refine vq_det (det_load_str (b := o) (j := o.length - 1) (by kernel_rfl) rfl (by first | (exact Bor.own (by repeat (first | exact List.Mem.head _ | apply List.Mem.tail))) | (repeat (first | assumption | apply Bor.cons))) (by omega)) rfl ?_
        rw [hlst]
        refine vq_det (det_assign rfl) rfl ?_
        refine vq_end [(0, _), (7, _), (8, _), (9, _), (14, _), (15, _)] ⟨rfl, rfl, rfl, rfl, rfl, rfl, trivial⟩ ?_
        exact in_join ⟨⟨(by first | rfl | exact int_to (by omega) | exact sl_to (by omega)), (by first | rfl | exact int_to (by omega) | exact sl_to (by omega)), (by first | rfl | exact int_to (by omega) | exact sl_to (by omega)), (by first | rfl | exact int_to (by omega) | exact sl_to (by omega)), (by first | rfl | exact int_to (by omega) | exact sl_to (by omega)), (by first | rfl | exact int_to (by omega) | exact sl_to (by omega)), trivial⟩, .refl _⟩
      · skip
        have hlst : prvT o o.length = [] := if_pos (by omega)
        refine vc_skip ?_
        rw [hlst]
        exact in_join ⟨⟨(by first | rfl | exact int_to (by omega) | exact sl_to (by omega)), (by first | rfl | exact int_to (by omega) | exact sl_to (by omega)), (by first | rfl | exact int_to (by omega) | exact sl_to (by omega)), (by first | rfl | exact int_to (by omega) | exact sl_to (by omega)), (by first | rfl | exact int_to (by omega) | exact sl_to (by omega)), (by first | rfl | exact int_to (by omega) | exact sl_to (by omega)), trivial⟩, .refl _⟩
    · rintro _ _ ⟨hs, hp⟩
      refine vc_weaken _ hs (vc_wk hp ?_)
      clear hs hp
      refine vc_seq ?_
      refine vc_region ?_
      refine vl_det (det_move rfl) rfl ?_
      refine vl_det (det_move rfl) rfl ?_
      refine vl_det (det_move rfl) rfl ?_
      refine vl_det (det_eql rfl rfl) rfl ?_
      refine vl_call co55 rfl (next_d (decide ((i : Int) = 0)) (was := prvT o o.length) (by omega) ho (by first | (exact Bor.own (by repeat (first | exact List.Mem.head _ | apply List.Mem.tail))) | (repeat (first | assumption | apply Bor.cons)))) rfl ?_
      rintro _ _ ⟨rfl, hLL⟩
      obtain rfl := hLL.symm
      refine vl_det (det_assign rfl) rfl ?_
      refine vl_end [(0, _), (7, _), (8, _), (10, _), (14, _), (15, _)] ⟨rfl, rfl, rfl, rfl, rfl, rfl, trivial⟩ ?_
      refine then_next ?_
      refine vc_seq ?_
      refine vc_seq ?_
      refine vc_region ?_
      refine vl_det (det_move rfl) rfl ?_
      refine vl_call co38 rfl (cerr_d) rfl ?_
      rintro _ _ ⟨rfl, hLL⟩
      obtain rfl := hLL.symm
      refine vl_det (det_assign rfl) rfl ?_
      refine vl_end [(0, _), (7, _), (8, _), (10, _), (11, _), (14, _), (15, _)] ⟨rfl, rfl, rfl, rfl, rfl, rfl, rfl, trivial⟩ ?_
      refine then_next ?_
      refine vc_seq ?_
      refine vc_region ?_
      refine vl_det (det_move rfl) rfl ?_
      refine vl_det (det_neq rfl rfl) rfl ?_
      refine vl_end [(0, _), (7, _), (8, _), (10, _), (11, _), (14, _), (15, _), (47, _)] ⟨rfl, rfl, rfl, rfl, rfl, rfl, rfl, rfl, trivial⟩ ?_
      refine then_next ?_
      refine vc_decideU rfl (fun h47 => ?_) (fun h47 => ?_)
      · skip
        rw [if_pos h47] at hF
        refine vc_seq ?_
        refine vc_region ?_
        refine vl_det (det_move rfl) rfl ?_
        refine vl_det (det_assign rfl) rfl ?_
        refine vl_end [(6, _)] ⟨rfl, trivial⟩ ?_
        refine then_next ?_
        refine vc_ret ?_
        refine then_ret ?_
        refine in_ret ?_
        refine then_ret ?_
        refine loop_ret ?_
        refine in_ret ?_
        refine then_ret ?_
        refine ret_wk (L' := Dd g sz P1 p1 P2 p2 o h F) (.skip (.skip (.refl _))) ?_
        refine ret1 rfl rfl ?_
        exact ⟨P1, p1, P2, p2, o, h, by rw [← hF], rfl, fun h => by rw [← hF] at h; exact absurd h h47⟩
      · skip
        rw [if_neg h47] at hF
        have h0 : (nxC s (prvT o o.length) (decide ((i : Int) = 0))).e = 0 := by omega
        have hmay := nx_may h0
        have hbb := nxC_b s (prvT o o.length) (decide ((i : Int) = 0))
        have hoC : CsOk (nxC s (prvT o o.length) (decide ((i : Int) = 0))) := ho.nxC (by omega)
        have hel : o.length + 1 = (o ++ [nxT s (prvT o o.length) (decide ((i : Int) = 0))]).length := by simp
        refine vc_skip ?_
        refine then_next ?_
        refine vc_seq ?_
        refine vc_region ?_
        refine vl_det (det_move rfl) rfl ?_
        refine vl_det (det_move rfl) rfl ?_
        refine vl_det (det_nilCheck rfl) rfl ?_
        refine vl_det (det_fieldAddr_ Try.underlying65 rfl (by kernel_rfl) rfl rfl) rfl ?_
        refine vl_det (det_fieldAddr_ Try.underlying63 rfl (by kernel_rfl) rfl rfl) rfl ?_
        refine vl_det (det_load_blk (by kernel_rfl) rfl (by repeat (first | exact .hd | apply Sel.tl)) rfl) rfl ?_
        refine vl_det (det_move rfl) rfl ?_
        refine vl_push slT22 rfl rfl rfl rfl rfl (fun _ => rfl) (by repeat (first | exact .hd | apply Sel.tl)) (by omega) (by omega) ?_
        intro _ A57 c57
        refine vl_det (det_nilCheck rfl) rfl ?_
        refine vl_det (det_fieldAddr_ Try.underlying65 rfl (by kernel_rfl) rfl rfl) rfl ?_
        refine vl_det (det_fieldAddr_ Try.underlying63 rfl (by kernel_rfl) rfl rfl) rfl ?_
        refine vl_eff0 (eff_store (by kernel_rfl) rfl rfl rfl (by repeat (first | exact .hd | apply Sel.tl)) (by simp)) ?_
        rintro _ _ rfl
        refine vl_end [(0, _), (7, _), (8, _), (10, _), (14, _), (15, _)] ⟨rfl, rfl, rfl, rfl, rfl, rfl, trivial⟩ ?_
        refine then_next ?_
        refine vc_seq ?_
        refine vc_region ?_
        refine vl_det (det_move rfl) rfl ?_
        refine vl_det (det_eql rfl rfl) rfl ?_
        refine vl_end [(0, _), (7, _), (10, _), (14, _), (15, _), (62, _)] ⟨rfl, rfl, rfl, rfl, rfl, rfl, trivial⟩ ?_
        refine then_next ?_
        refine vc_decideU rfl (fun h62 => ?_) (fun h62 => ?_)
        · skip
          refine vc_region ?_
          refine vl_det (det_move rfl) rfl ?_
          refine vl_det (det_move rfl) rfl ?_
          refine vl_det (det_nilCheck rfl) rfl ?_
          refine vl_det (det_fieldAddr_ Try.underlying65 rfl (by kernel_rfl) rfl rfl) rfl ?_
          refine vl_det (det_load_blk (by kernel_rfl) rfl (by repeat (first | exact .hd | apply Sel.tl)) rfl) rfl ?_
          refine vl_det (det_move rfl) rfl ?_
          refine vl_push slT22 rfl rfl rfl rfl rfl (fun _ => rfl) (by repeat (first | exact .hd | apply Sel.tl)) (by omega) (by omega) ?_
          intro _ A70 c70
          refine vl_det (det_nilCheck rfl) rfl ?_
          refine vl_det (det_fieldAddr_ Try.underlying65 rfl (by kernel_rfl) rfl rfl) rfl ?_
          refine vl_eff0 (eff_store (by kernel_rfl) rfl rfl rfl (by repeat (first | exact .hd | apply Sel.tl)) (by simp)) ?_
          rintro _ _ rfl
          refine vl_end [(0, _), (7, _), (14, _), (15, _)] ⟨rfl, rfl, rfl, rfl, trivial⟩ ?_
          refine in_normal ?_
          refine then_next ?_
          refine vc_region ?_
          refine vl_det (det_add rfl rfl (w_i64 (by omega) (by omega))) rfl ?_
          refine vl_det (det_move rfl) rfl ?_
          refine vl_end [(0, _), (7, _), (14, _), (15, _)] ⟨rfl, rfl, rfl, rfl, trivial⟩ ?_
          have hel2 : h.length + 1 = (h ++ [nxT s (prvT o o.length) (decide ((i : Int) = 0))]).length := by simp
          refine in_loop_ ⟨_, by omega, i + 1, nxC s (prvT o o.length) (decide ((i : Int) = 0)), o ++ [nxT s (prvT o o.length) (decide ((i : Int) = 0))], h ++ [nxT s (prvT o o.length) (decide ((i : Int) = 0))], A57, c57, A70, c70, ⟨by omega, hoC, by simp; omega, ho25.snoc hmay.2.1, fun h => absurd h (by omega), fun _ => by rw [hh0 (by omega)]; simp [hoo, show i = 0 by omega], by rw [show m - (i + 1) = k by omega, decide_eq_false (show ¬ ((i + 1 : Nat) : Int) = 0 by omega)]; exact hF⟩, rfl, ⟨(by first | rfl | exact int_to (by omega) | exact sl_to (by omega)), (by first | rfl | exact int_to (by omega) | exact sl_to (by omega)), (by first | rfl | exact int_to (by omega) | exact sl_to (by omega)), (by first | rfl | exact int_to (by omega) | exact sl_to (by omega)), trivial⟩, .cons (wk_own (by rw [hbb]) (by rw [hbb]) (wk_blk (by rw [hel, hel2]; rfl) (wk_own hel (by simp [strs]) (wk_own hel2 (by simp [strs]) (.refl _)))))⟩
        · skip
          refine vc_skip ?_
          refine in_normal ?_
          refine then_next ?_
          refine vc_region ?_
          refine vl_det (det_add rfl rfl (w_i64 (by omega) (by omega))) rfl ?_
          refine vl_det (det_move rfl) rfl ?_
          refine vl_end [(0, _), (7, _), (14, _), (15, _)] ⟨rfl, rfl, rfl, rfl, trivial⟩ ?_
          refine in_loop_ ⟨_, by omega, i + 1, nxC s (prvT o o.length) (decide ((i : Int) = 0)), o ++ [nxT s (prvT o o.length) (decide ((i : Int) = 0))], h, A57, c57, P2, p2, ⟨by omega, hoC, by simp; omega, ho25.snoc hmay.2.1, fun h => absurd h (by omega), fun _ => by rw [hh1 (by omega), getD_app (by omega)], by rw [show m - (i + 1) = k by omega, decide_eq_false (show ¬ ((i + 1 : Nat) : Int) = 0 by omega)]; exact hF⟩, rfl, ⟨(by first | rfl | exact int_to (by omega) | exact sl_to (by omega)), (by first | rfl | exact int_to (by omega) | exact sl_to (by omega)), (by first | rfl | exact int_to (by omega) | exact sl_to (by omega)), (by first | rfl | exact int_to (by omega) | exact sl_to (by omega)), trivial⟩, .cons (wk_own (by rw [hbb]) (by rw [hbb]) (wk_blk (by rw [hel]; rfl) (wk_own hel (by simp [strs]) (.refl _))))⟩
  · skip
    rw [show m - i = 0 by omega, fillF] at hF
    refine vc_exit ?_
    refine then_exit ?_
    refine loop_exit ?_
    refine in_eq ?_
    refine then_next ?_
    refine vc_seq ?_
    refine vc_region ?_
    refine vl_det (det_move rfl) rfl ?_
    refine vl_call co56 rfl (cend_d ho (by first | (exact Bor.own (by repeat (first | exact List.Mem.head _ | apply List.Mem.tail))) | (repeat (first | assumption | apply Bor.cons)))) rfl ?_
    rintro _ _ ⟨rfl, hLL⟩
    obtain rfl := hLL.symm
    refine vl_det (det_assign rfl) rfl ?_
    refine vl_end [(6, _)] ⟨rfl, trivial⟩ ?_
    refine then_next ?_
    refine vc_ret ?_
    refine ret_wk (L' := Dd g sz P1 p1 P2 p2 o h F) (.skip (.skip (.refl _))) ?_
    refine ret1 rfl rfl ?_
    have hG2 : G.2 = s.end'.e := by
      rw [← hF]; split
      · rfl
      · rename_i q; simpa using (Classical.not_not.1 q).symm
    refine ⟨P1, p1, P2, p2, o, h, by rw [hG2], rfl, fun q => ?_⟩
    rw [hG2] at q
    rw [if_neg (by simpa using q)] at hF
    exact ⟨by rw [← hF], hh1 (by omega), ho25, by omega⟩
end Go.Proofs.Ytbkaoncopohdbaa
