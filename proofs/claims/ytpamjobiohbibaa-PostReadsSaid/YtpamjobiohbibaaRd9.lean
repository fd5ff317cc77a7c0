/-
  Texts of one proof, joined: part 9. No condition.
-/
import Derived.Test.YtpamjobiohbibaaRd8
namespace Go.Proofs.Ytpamjobiohbibaa
open Go.RowKit
set_option linter.unusedVariables false
set_option maxRecDepth 20000
variable {B : Nat} {w0 : World} {F L0 : List Ch} {A : Option Addr} {n c g : Nat} {s : Cs} {C0 : Ch}
/-- a cursor's block -/
abbrev Rv (g : Nat) (A : Option Addr) (c : Nat) (s : Cs) : Ch := .blk g 135 [.slice A s.b.length c, .int .i64 s.at_, .int .i64 s.e]
theorem rscan_d {l : List UInt8} (hb : Bor B w0 L0 1 (.slice A n c) n (bv l)) (hn : n ≤ 1099511627776) {at_ : Nat} (hat : at_ ≤ n) : Does Try.prog B w0 144 [.slice A n c, .int .i64 at_] L0 (fun r L => r = .tuple #[.int .u64 (scanS (l.drop at_)).1, .int .i64 (at_ + (scanS (l.drop at_)).2.1 : Nat), .int .i64 (scanS (l.drop at_)).2.2] ∧ L = L0) :=
  Does.of_same fun w hw => (rscan_c w (hb w hw) hn at_ hat).mono fun e w' ⟨h1, h2⟩ => ⟨h1, h2.symm⟩
theorem rleft_d (ho : CsOk s) : Does Try.prog B w0 93 [.pointer (some ⟨g, 0, none⟩)] (Rv g A c s :: F) (fun r L => r = .int .i64 s.left ∧ L = Rv g A c s :: F) := by
  have hat := ho.at_
  have hlen := ho.len
  have el : (s.left : Int) = (s.b.length : Int) - s.at_ := by unfold Cs.left; omega
  refine fn_walk Try.func93 13 rfl rfl rfl [(0, .pointer (some ⟨g, 0, none⟩))] ⟨⟨rfl, rfl⟩, trivial⟩ ?_
  refine vc_seq ?_
  refine vc_region ?_
  refine vl_det (det_assign rfl) rfl ?_
  refine vl_end [(0, _)] ⟨rfl, trivial⟩ ?_
  refine then_next ?_
  refine vc_seq ?_
  refine vq_region (by kernel_rfl) (by kernel_rfl) ?_
  refine vq_det (det_move rfl) rfl ?_
  refine vq_det (det_nilCheck rfl) rfl ?_
  refine vq_det (det_fieldAddr_ Try.underlying135 rfl (by kernel_rfl) rfl rfl) rfl ?_
  refine vq_det (det_load_blk (by kernel_rfl) rfl (by repeat (first | exact .hd | apply Sel.tl)) rfl) rfl ?_
  refine vq_det (det_len_sl Try.underlying41 rfl) rfl ?_
  refine vq_det (det_move rfl) rfl ?_
  refine vq_det (det_nilCheck rfl) rfl ?_
  refine vq_det (det_fieldAddr_ Try.underlying135 rfl (by kernel_rfl) rfl rfl) rfl ?_
  refine vq_det (det_load_blk (by kernel_rfl) rfl (by repeat (first | exact .hd | apply Sel.tl)) rfl) rfl ?_
  refine vq_det (det_sub rfl rfl (w_i64 (by omega) (by omega))) rfl ?_
  refine vq_det (det_assign rfl) rfl ?_
  refine vq_end [(2, _)] ⟨rfl, trivial⟩ ?_
  refine then_next ?_
  refine vc_ret ?_
  refine ret1 rfl rfl ?_
  exact ⟨by rw [el], rfl⟩
theorem rcnum_d (ho : CsOk s) (hb : Bor B w0 F 1 (.slice A s.b.length c) s.b.length (bv s.b)) :
    Does Try.prog B w0 125 [.pointer (some ⟨g, 0, none⟩)] (Rv g A c s :: F) (fun r L => r = .int .u64 s.num ∧ L = Rv g A c s.num' :: F) := by
  have hlen := ho.len
  have hat := ho.at_
  refine fn_walk Try.func125 33 rfl rfl rfl [(0, .pointer (some ⟨g, 0, none⟩))] ⟨⟨rfl, rfl⟩, trivial⟩ ?_
  refine vc_seq ?_
  refine vc_region ?_
  refine vl_det (det_assign rfl) rfl ?_
  refine vl_end [(0, _)] ⟨rfl, trivial⟩ ?_
  refine then_next ?_
  refine vc_seq ?_
  refine vc_seq ?_
  refine vc_region ?_
  refine vl_det (det_move rfl) rfl ?_
  refine vl_det (det_nilCheck rfl) rfl ?_
  refine vl_det (det_fieldAddr_ Try.underlying135 rfl (by kernel_rfl) rfl rfl) rfl ?_
  refine vl_det (det_load_blk (by kernel_rfl) rfl (by repeat (first | exact .hd | apply Sel.tl)) rfl) rfl ?_
  refine vl_det (det_neq rfl rfl) rfl ?_
  refine vl_end [(0, _), (10, _)] ⟨rfl, rfl, trivial⟩ ?_
  refine then_next ?_
  refine vc_decideU rfl (fun h10 => ?_) (fun h10 => ?_)
  · skip
    refine vc_seq ?_
    refine vc_region ?_
    refine vl_det (det_assign rfl) rfl ?_
    refine vl_end [(2, _)] ⟨rfl, trivial⟩ ?_
    refine then_next ?_
    refine vc_ret ?_
    refine then_ret ?_
    refine ret1 rfl rfl ?_
    rw [(Cs.bad h10).1, (Cs.bad h10).2.1]
    exact ⟨rfl, rfl⟩
  · skip
    refine vc_skip ?_
    refine then_next ?_
    refine vc_seq ?_
    refine vq_region (by kernel_rfl) (by kernel_rfl) ?_
    refine vq_det (det_move rfl) rfl ?_
    refine vq_det (det_nilCheck rfl) rfl ?_
    refine vq_det (det_fieldAddr_ Try.underlying135 rfl (by kernel_rfl) rfl rfl) rfl ?_
    refine vq_det (det_load_blk (by kernel_rfl) rfl (by repeat (first | exact .hd | apply Sel.tl)) rfl) rfl ?_
    refine vq_det (det_move rfl) rfl ?_
    refine vq_det (det_nilCheck rfl) rfl ?_
    refine vq_det (det_fieldAddr_ Try.underlying135 rfl (by kernel_rfl) rfl rfl) rfl ?_
    refine vq_det (det_load_blk (by kernel_rfl) rfl (by repeat (first | exact .hd | apply Sel.tl)) rfl) rfl ?_
    refine vq_call co144 rfl (rscan_d (at_ := s.at_) (by first | (exact Bor.own (by repeat (first | exact List.Mem.head _ | apply List.Mem.tail))) | (repeat (first | assumption | apply Bor.cons))) hlen hat) (by rintro _ _ ⟨rfl, rfl⟩; exact ⟨rfl, List.Sublist.refl _⟩) rfl ?_
    refine vq_det (det_move rfl) rfl ?_
    refine vq_det (det_extract rfl rfl) rfl ?_
    refine vq_det (det_extract rfl rfl) rfl ?_
    refine vq_det (det_extract rfl rfl) rfl ?_
    refine vq_det (det_assign rfl) rfl ?_
    refine vq_det (det_assign rfl) rfl ?_
    refine vq_det (det_assign rfl) rfl ?_
    refine vq_end [(0, _), (3, _), (4, _), (5, _)] ⟨rfl, rfl, rfl, rfl, trivial⟩ ?_
    refine then_next ?_
    refine vc_seq ?_
    refine vc_region ?_
    refine vl_det (det_move rfl) rfl ?_
    refine vl_det (det_move rfl) rfl ?_
    refine vl_det (det_nilCheck rfl) rfl ?_
    refine vl_det (det_fieldAddr_ Try.underlying135 rfl (by kernel_rfl) rfl rfl) rfl ?_
    refine vl_eff0 (eff_store (by kernel_rfl) rfl rfl rfl (by repeat (first | exact .hd | apply Sel.tl)) (by simp)) ?_
    rintro _ _ rfl
    refine vl_end [(0, _), (3, _), (5, _)] ⟨rfl, rfl, rfl, trivial⟩ ?_
    refine then_next ?_
    refine vc_seq ?_
    refine vc_region ?_
    refine vl_det (det_move rfl) rfl ?_
    refine vl_det (det_move rfl) rfl ?_
    refine vl_det (det_nilCheck rfl) rfl ?_
    refine vl_det (det_fieldAddr_ Try.underlying135 rfl (by kernel_rfl) rfl rfl) rfl ?_
    refine vl_eff0 (eff_store (by kernel_rfl) rfl rfl rfl (by repeat (first | exact .hd | apply Sel.tl)) (by simp)) ?_
    rintro _ _ rfl
    refine vl_end [(3, _)] ⟨rfl, trivial⟩ ?_
    refine then_next ?_
    refine vc_seq ?_
    refine vc_region ?_
    refine vl_det (det_move rfl) rfl ?_
    refine vl_det (det_assign rfl) rfl ?_
    refine vl_end [(2, _)] ⟨rfl, trivial⟩ ?_
    refine then_next ?_
    refine vc_ret ?_
    refine ret1 rfl rfl ?_
    have h0 : s.e = 0 := by omega
    rw [(Cs.num_mk h0).1, (Cs.num_mk h0).2]
    exact ⟨rfl, rfl⟩
theorem rcint_d (ho : CsOk s) (hb : Bor B w0 F 1 (.slice A s.b.length c) s.b.length (bv s.b)) {most : Int} (hm1 : -9223372036854775808 ≤ most) (hm2 : most ≤ 9223372036854775807) :
    Does Try.prog B w0 90 [.pointer (some ⟨g, 0, none⟩), .int .i64 most] (Rv g A c s :: F) (fun r L => r = .int .i64 (s.int most) ∧ L = Rv g A c (s.int' most) :: F) := by
  have hnum := rcnum_d (g := g) ho hb
  by_cases h0 : s.e = 0
  · have e : limS s.rest most = lim3 (scanS s.rest).1 (scanS s.rest).2.1 (scanS s.rest).2.2 most := rfl
    have hx := (scanS_facts s.rest).1
    have hk0 : (scanS s.rest).2.2 ≠ 0 → (scanS s.rest).2.1 = 0 := fun h => (scanS_err h).2
    rw [(Cs.num_mk h0).1, (Cs.num_mk h0).2] at hnum
    rw [(Cs.int_mk h0 most).1, (Cs.int_mk h0 most).2, e]
    clear e
    generalize (scanS s.rest).1 = x at *
    generalize (scanS s.rest).2.1 = k at *
    generalize (scanS s.rest).2.2 = er at *
    refine fn_walk Try.func90 35 rfl rfl rfl [(0, .pointer (some ⟨g, 0, none⟩)), (1, .int .i64 most)] ⟨⟨rfl, rfl⟩, ⟨rfl, rfl⟩, trivial⟩ ?_
    refine vc_seq ?_
    refine vc_region ?_
    refine vl_det (det_assign rfl) rfl ?_
    refine vl_end [(0, _), (1, _)] ⟨rfl, rfl, trivial⟩ ?_
    refine then_next ?_
    refine vc_seq ?_
    refine vc_region ?_
    refine vl_det (det_move rfl) rfl ?_
    refine vl_det (det_nilCheck rfl) rfl ?_
    refine vl_det (det_fieldAddr_ Try.underlying135 rfl (by kernel_rfl) rfl rfl) rfl ?_
    refine vl_det (det_load_blk (by kernel_rfl) rfl (by repeat (first | exact .hd | apply Sel.tl)) rfl) rfl ?_
    refine vl_det (det_assign rfl) rfl ?_
    refine vl_end [(0, _), (1, _), (5, _)] ⟨rfl, rfl, rfl, trivial⟩ ?_
    refine then_next ?_
    refine vc_seq ?_
    refine vc_region ?_
    refine vl_det (det_move rfl) rfl ?_
    refine vl_call co125 rfl (hnum) rfl ?_
    rintro _ _ ⟨rfl, hLL⟩
    obtain rfl := hLL.symm
    refine vl_det (det_assign rfl) rfl ?_
    refine vl_end [(0, _), (1, _), (5, _), (6, _)] ⟨rfl, rfl, rfl, rfl, trivial⟩ ?_
    refine then_next ?_
    refine vc_seq ?_
    refine vc_seq ?_
    refine vc_region ?_
    refine vl_det (det_move rfl) rfl ?_
    refine vl_det (det_nilCheck rfl) rfl ?_
    refine vl_det (det_fieldAddr_ Try.underlying135 rfl (by kernel_rfl) rfl rfl) rfl ?_
    refine vl_det (det_load_blk (by kernel_rfl) rfl (by repeat (first | exact .hd | apply Sel.tl)) rfl) rfl ?_
    refine vl_det (det_neq rfl rfl) rfl ?_
    refine vl_end [(0, _), (1, _), (5, _), (6, _), (17, _)] ⟨rfl, rfl, rfl, rfl, rfl, trivial⟩ ?_
    refine then_next ?_
    refine vc_decideU rfl (fun h17 => ?_) (fun h17 => ?_)
    · skip
      refine vc_seq ?_
      refine vc_region ?_
      refine vl_det (det_assign rfl) rfl ?_
      refine vl_end [(4, _)] ⟨rfl, trivial⟩ ?_
      refine then_next ?_
      refine vc_ret ?_
      refine then_ret ?_
      refine ret1 rfl rfl ?_
      have hk := hk0 h17
      subst hk
      rw [lim3_a h17]
      exact ⟨rfl, rfl⟩
    · skip
      refine vc_skip ?_
      refine then_next ?_
      refine vc_seq ?_
      refine vc_seq ?_
      refine vc_region ?_
      refine vl_cut 8 25 [(0, _), (5, _), (6, _)] (most < 0 ∨ most < (x : Int)) ⟨rfl, rfl, rfl, trivial⟩ ?_ ?_
      · skip
        refine vl_det (det_move rfl) rfl ?_
        refine vl_det (det_lss rfl rfl) rfl ?_
        refine vl_det (det_move rfl) rfl ?_
        refine vl_guardn rfl rfl rfl (fun h20 => ?_) (fun h20 => ?_)
        · skip
          refine vl_det (det_move rfl) rfl ?_
          refine vl_guard_t rfl rfl ?_
          refine vl_det (det_move rfl) rfl ?_
          refine vl_guard_t rfl rfl ?_
          refine vl_det (det_conv Try.underlying3 Try.underlying33 rfl (w_u64 (by omega) (by omega))) rfl ?_
          refine vl_guard_t rfl rfl ?_
          refine vl_det (det_gtr rfl rfl) rfl ?_
          refine vl_det (det_pick_f rfl rfl) rfl ?_
          exact vl_cut_end ⟨rfl, rfl, rfl, trivial⟩ (by first | rfl | exact bool_to_t (by first | omega | simp_all) | exact bool_to_f (by first | omega | simp_all) | exact bool_to (by first | omega | simp_all) | exact bool_to_b (by first | omega | simp_all))
        · skip
          refine vl_guard_f rfl rfl rfl rfl ?_
          refine vl_guard_f rfl rfl rfl rfl ?_
          refine vl_guard_f rfl rfl rfl rfl ?_
          refine vl_det (det_pick_t rfl rfl) rfl ?_
          exact vl_cut_end ⟨rfl, rfl, rfl, trivial⟩ (by first | rfl | exact bool_to_t (by first | omega | simp_all) | exact bool_to_f (by first | omega | simp_all) | exact bool_to (by first | omega | simp_all) | exact bool_to_b (by first | omega | simp_all))
      · skip
        refine vl_end [(0, _), (5, _), (6, _), (25, _)] ⟨rfl, rfl, rfl, rfl, trivial⟩ ?_
        refine then_next ?_
        refine vc_decideU rfl (fun h25 => ?_) (fun h25 => ?_)
        · skip
          refine vc_seq ?_
          refine vc_region ?_
          refine vl_det (det_move rfl) rfl ?_
          refine vl_det (det_move rfl) rfl ?_
          refine vl_det (det_nilCheck rfl) rfl ?_
          refine vl_det (det_fieldAddr_ Try.underlying135 rfl (by kernel_rfl) rfl rfl) rfl ?_
          refine vl_eff0 (eff_store (by kernel_rfl) rfl rfl rfl (by repeat (first | exact .hd | apply Sel.tl)) (by simp)) ?_
          rintro _ _ rfl
          refine vl_end [(0, _)] ⟨rfl, trivial⟩ ?_
          refine then_next ?_
          refine vc_seq ?_
          refine vc_region ?_
          refine vl_det (det_move rfl) rfl ?_
          refine vl_det (det_nilCheck rfl) rfl ?_
          refine vl_det (det_fieldAddr_ Try.underlying135 rfl (by kernel_rfl) rfl rfl) rfl ?_
          refine vl_eff0 (eff_store (by kernel_rfl) rfl rfl rfl (by repeat (first | exact .hd | apply Sel.tl)) (by simp)) ?_
          rintro _ _ rfl
          refine vl_end [] trivial ?_
          refine then_next ?_
          refine vc_seq ?_
          refine vc_region ?_
          refine vl_det (det_assign rfl) rfl ?_
          refine vl_end [(4, _)] ⟨rfl, trivial⟩ ?_
          refine then_next ?_
          refine vc_ret ?_
          refine then_ret ?_
          refine ret1 rfl rfl ?_
          rw [lim3_b h17 h25]
          exact ⟨rfl, rfl⟩
        · skip
          refine vc_skip ?_
          refine then_next ?_
          refine vc_seq ?_
          refine vc_region ?_
          refine vl_det (det_move rfl) rfl ?_
          refine vl_det (det_conv Try.underlying33 Try.underlying3 rfl (w_i64 (by omega) (by omega))) rfl ?_
          refine vl_det (det_assign rfl) rfl ?_
          refine vl_end [(4, _)] ⟨rfl, trivial⟩ ?_
          refine then_next ?_
          refine vc_ret ?_
          refine ret1 rfl rfl ?_
          have he : er = 0 := Classical.not_not.1 h17
          subst he
          rw [lim3_c h17 h25]
          exact ⟨rfl, rfl⟩
  · rw [(Cs.bad h0).1, (Cs.bad h0).2.1] at hnum
    rw [((Cs.bad h0).2.2 most).1, ((Cs.bad h0).2.2 most).2.1]
    refine fn_walk Try.func90 35 rfl rfl rfl [(0, .pointer (some ⟨g, 0, none⟩)), (1, .int .i64 most)] ⟨⟨rfl, rfl⟩, ⟨rfl, rfl⟩, trivial⟩ ?_
    refine vc_seq ?_
    refine vc_region ?_
    refine vl_det (det_assign rfl) rfl ?_
    refine vl_end [(0, _), (1, _)] ⟨rfl, rfl, trivial⟩ ?_
    refine then_next ?_
    refine vc_seq ?_
    refine vc_region ?_
    refine vl_det (det_move rfl) rfl ?_
    refine vl_det (det_nilCheck rfl) rfl ?_
    refine vl_det (det_fieldAddr_ Try.underlying135 rfl (by kernel_rfl) rfl rfl) rfl ?_
    refine vl_det (det_load_blk (by kernel_rfl) rfl (by repeat (first | exact .hd | apply Sel.tl)) rfl) rfl ?_
    refine vl_det (det_assign rfl) rfl ?_
    refine vl_end [(0, _), (1, _), (5, _)] ⟨rfl, rfl, rfl, trivial⟩ ?_
    refine then_next ?_
    refine vc_seq ?_
    refine vc_region ?_
    refine vl_det (det_move rfl) rfl ?_
    refine vl_call co125 rfl (hnum) rfl ?_
    rintro _ _ ⟨rfl, hLL⟩
    obtain rfl := hLL.symm
    refine vl_det (det_assign rfl) rfl ?_
    refine vl_end [(0, _), (1, _), (5, _), (6, _)] ⟨rfl, rfl, rfl, rfl, trivial⟩ ?_
    refine then_next ?_
    refine vc_seq ?_
    refine vc_seq ?_
    refine vc_region ?_
    refine vl_det (det_move rfl) rfl ?_
    refine vl_det (det_nilCheck rfl) rfl ?_
    refine vl_det (det_fieldAddr_ Try.underlying135 rfl (by kernel_rfl) rfl rfl) rfl ?_
    refine vl_det (det_load_blk (by kernel_rfl) rfl (by repeat (first | exact .hd | apply Sel.tl)) rfl) rfl ?_
    refine vl_det (det_neq rfl rfl) rfl ?_
    refine vl_end [(0, _), (1, _), (5, _), (6, _), (17, _)] ⟨rfl, rfl, rfl, rfl, rfl, trivial⟩ ?_
    refine then_next ?_
    refine vc_decideU rfl (fun h17 => ?_) (fun h17 => ?_)
    · skip
      refine vc_seq ?_
      refine vc_region ?_
      refine vl_det (det_assign rfl) rfl ?_
      refine vl_end [(4, _)] ⟨rfl, trivial⟩ ?_
      refine then_next ?_
      refine vc_ret ?_
      refine then_ret ?_
      refine ret1 rfl rfl ?_
      exact ⟨rfl, rfl⟩
    · skip
      exfalso; exact h17 h0
theorem rctake_d (ho : CsOk s) (hb : Bor B w0 F 1 (.slice A s.b.length c) s.b.length (bv s.b)) {m : Int} (hm1 : -9223372036854775808 ≤ m) (hm2 : m ≤ 9223372036854775807) :
    Does Try.prog B w0 91 [.pointer (some ⟨g, 0, none⟩), .int .i64 m] (Rv g A c s :: F) (fun r L => ∃ A' c', r = .slice A' (s.take m).length c' ∧ L = Rv g A c (s.take' m) :: .own 5 1 A' (s.take m).length c' (bv (s.take m)) :: F) := by
  refine Does.bor (L := Rv g A c s :: F) (Bor.cons hb) fun hc _ => ?_
  have hlen := ho.len
  have hat := ho.at_
  have hrl := ho.rest.1
  have el : (s.left : Int) = (s.b.length : Int) - s.at_ := by unfold Cs.left; omega
  refine fn_walk Try.func91 50 rfl rfl rfl [(0, .pointer (some ⟨g, 0, none⟩)), (1, .int .i64 m)] ⟨⟨rfl, rfl⟩, ⟨rfl, rfl⟩, trivial⟩ ?_
  refine vc_seq ?_
  refine vc_region ?_
  refine vl_det (det_assign rfl) rfl ?_
  refine vl_end [(0, _), (1, _)] ⟨rfl, rfl, trivial⟩ ?_
  refine then_next ?_
  refine vc_seq ?_
  refine vc_seq ?_
  refine vc_region ?_
  refine vl_det (det_move rfl) rfl ?_
  refine vl_det (det_nilCheck rfl) rfl ?_
  refine vl_det (det_fieldAddr_ Try.underlying135 rfl (by kernel_rfl) rfl rfl) rfl ?_
  refine vl_det (det_load_blk (by kernel_rfl) rfl (by repeat (first | exact .hd | apply Sel.tl)) rfl) rfl ?_
  refine vl_det (det_neq rfl rfl) rfl ?_
  refine vl_end [(0, _), (1, _), (10, _)] ⟨rfl, rfl, rfl, trivial⟩ ?_
  refine then_next ?_
  refine vc_decideU rfl (fun h10 => ?_) (fun h10 => ?_)
  · skip
    refine vc_seq ?_
    refine vc_region ?_
    refine vl_det (det_assign rfl) rfl ?_
    refine vl_end [(4, _)] ⟨rfl, trivial⟩ ?_
    refine then_next ?_
    refine vc_ret ?_
    refine then_ret ?_
    refine ret_nil_row 5 1 none ?_
    refine ret_wk (L' := Rv g A c s :: .own 5 1 none 0 0 [] :: F) (.swap (.refl _)) ?_
    refine ret1 rfl rfl ?_
    rw [((Cs.bad h10).2.2 m).2.2.2.2.1, ((Cs.bad h10).2.2 m).2.2.2.2.2]
    exact ⟨none, 0, rfl, rfl⟩
  · skip
    refine vc_skip ?_
    refine then_next ?_
    refine vc_seq ?_
    refine vc_seq ?_
    refine vc_region ?_
    refine vl_det (det_move rfl) rfl ?_
    refine vl_det (det_lss rfl rfl) rfl ?_
    refine vl_end [(0, _), (1, _), (12, _)] ⟨rfl, rfl, rfl, trivial⟩ ?_
    refine then_next ?_
    refine vc_decideU rfl (fun h12 => ?_) (fun h12 => ?_)
    · skip
      refine vc_seq ?_
      refine vc_region ?_
      refine vl_det (det_move rfl) rfl ?_
      refine vl_det (det_nilCheck rfl) rfl ?_
      refine vl_det (det_fieldAddr_ Try.underlying135 rfl (by kernel_rfl) rfl rfl) rfl ?_
      refine vl_eff0 (eff_store (by kernel_rfl) rfl rfl rfl (by repeat (first | exact .hd | apply Sel.tl)) (by simp)) ?_
      rintro _ _ rfl
      refine vl_end [] trivial ?_
      refine then_next ?_
      refine vc_seq ?_
      refine vc_region ?_
      refine vl_det (det_assign rfl) rfl ?_
      refine vl_end [(4, _)] ⟨rfl, trivial⟩ ?_
      refine then_next ?_
      refine vc_ret ?_
      refine then_ret ?_
      have h0 : s.e = 0 := by omega
      have e1 : takeErr s.rest m = 13 := if_pos h12
      have e2 : takeT s.rest m = [] := by simp [takeT, e1]
      have e3 : takeK s.rest m = 0 := by simp [takeK, e1]
      refine ret_nil_row 5 1 none ?_
      refine ret_wk (L' := Rv g A c ⟨s.b, s.at_ + 0, 13⟩ :: .own 5 1 none 0 0 [] :: F) (.swap (.refl _)) ?_
      refine ret1 rfl rfl ?_
      rw [(Cs.take_mk h0 m).1, (Cs.take_mk h0 m).2, e1, e2, e3]
      exact ⟨none, 0, rfl, rfl⟩
    · skip
      obtain ⟨q, rfl⟩ := Int.eq_ofNat_of_zero_le (show 0 ≤ m by omega)
      refine vc_skip ?_
      refine then_next ?_
      refine vc_seq ?_
      refine vc_seq ?_
      refine vc_region ?_
      refine vl_det (det_move rfl) rfl ?_
      refine vl_det (det_move rfl) rfl ?_
      refine vl_call co93 rfl (rleft_d ho) rfl ?_
      rintro _ _ ⟨rfl, hLL⟩
      obtain rfl := hLL.symm
      refine vl_det (det_gtr rfl rfl) rfl ?_
      refine vl_end [(0, _), (1, _), (19, _)] ⟨rfl, rfl, rfl, trivial⟩ ?_
      refine then_next ?_
      refine vc_decideU rfl (fun h19 => ?_) (fun h19 => ?_)
      · skip
        refine vc_seq ?_
        refine vc_region ?_
        refine vl_det (det_move rfl) rfl ?_
        refine vl_det (det_nilCheck rfl) rfl ?_
        refine vl_det (det_fieldAddr_ Try.underlying135 rfl (by kernel_rfl) rfl rfl) rfl ?_
        refine vl_eff0 (eff_store (by kernel_rfl) rfl rfl rfl (by repeat (first | exact .hd | apply Sel.tl)) (by simp)) ?_
        rintro _ _ rfl
        refine vl_end [] trivial ?_
        refine then_next ?_
        refine vc_seq ?_
        refine vc_region ?_
        refine vl_det (det_assign rfl) rfl ?_
        refine vl_end [(4, _)] ⟨rfl, trivial⟩ ?_
        refine then_next ?_
        refine vc_ret ?_
        refine then_ret ?_
        have h0 : s.e = 0 := by omega
        have e1 : takeErr s.rest q = 1 := by unfold takeErr; rw [if_neg h12, if_pos (by omega)]
        have e2 : takeT s.rest q = [] := by simp [takeT, e1]
        have e3 : takeK s.rest q = 0 := by simp [takeK, e1]
        refine ret_nil_row 5 1 none ?_
        refine ret_wk (L' := Rv g A c ⟨s.b, s.at_ + 0, 1⟩ :: .own 5 1 none 0 0 [] :: F) (.swap (.refl _)) ?_
        refine ret1 rfl rfl ?_
        rw [(Cs.take_mk h0 q).1, (Cs.take_mk h0 q).2, e1, e2, e3]
        exact ⟨none, 0, rfl, rfl⟩
      · skip
        have hbt := (hb.head_ (k := s.at_ + q) (by omega)).cut (k := s.at_) (by omega)
        have ebt : ((bv s.b).take ((s.at_ + q) * 1)).drop (s.at_ * 1) = bv (s.rest.take q) := by rw [Nat.mul_one, Nat.mul_one, bv_take, bv_drop, List.drop_take, Nat.add_sub_cancel_left]; rfl
        rw [ebt] at hbt
        refine vc_skip ?_
        refine then_next ?_
        refine vc_seq ?_
        refine vh_region (S := Rv g A c s :: F) (by kernel_rfl) (by repeat (first | exact List.Sublist.refl _ | exact List.nil_sublist _ | exact List.sublist_append_right _ _ | apply List.Sublist.cons_cons | apply List.Sublist.cons)) ?_
        refine vh_take 1 rfl (by kernel_rfl) (by kernel_rfl) (by kernel_rfl) (det_move rfl) rfl ?_
        refine vh_take 2 rfl (by kernel_rfl) (by kernel_rfl) (by kernel_rfl) (det_nilCheck rfl) rfl ?_
        refine vh_take 3 rfl (by kernel_rfl) (by kernel_rfl) (by kernel_rfl) (det_fieldAddr_ Try.underlying135 rfl (by kernel_rfl) rfl rfl) rfl ?_
        refine vh_take 4 rfl (by kernel_rfl) (by kernel_rfl) (by kernel_rfl) (det_load_blk (by kernel_rfl) rfl (by repeat (first | exact .hd | apply Sel.tl)) rfl) rfl ?_
        refine vh_take 5 rfl (by kernel_rfl) (by kernel_rfl) (by kernel_rfl) (det_move rfl) rfl ?_
        refine vh_take 6 rfl (by kernel_rfl) (by kernel_rfl) (by kernel_rfl) (det_nilCheck rfl) rfl ?_
        refine vh_take 7 rfl (by kernel_rfl) (by kernel_rfl) (by kernel_rfl) (det_fieldAddr_ Try.underlying135 rfl (by kernel_rfl) rfl rfl) rfl ?_
        refine vh_take 8 rfl (by kernel_rfl) (by kernel_rfl) (by kernel_rfl) (det_load_blk (by kernel_rfl) rfl (by repeat (first | exact .hd | apply Sel.tl)) rfl) rfl ?_
        refine vh_take 9 rfl (by kernel_rfl) (by kernel_rfl) (by kernel_rfl) (det_move rfl) rfl ?_
        refine vh_take 10 rfl (by kernel_rfl) (by kernel_rfl) (by kernel_rfl) (det_nilCheck rfl) rfl ?_
        refine vh_take 11 rfl (by kernel_rfl) (by kernel_rfl) (by kernel_rfl) (det_fieldAddr_ Try.underlying135 rfl (by kernel_rfl) rfl rfl) rfl ?_
        refine vh_take 12 rfl (by kernel_rfl) (by kernel_rfl) (by kernel_rfl) (det_load_blk (by kernel_rfl) rfl (by repeat (first | exact .hd | apply Sel.tl)) rfl) rfl ?_
        refine vh_take 13 rfl (by kernel_rfl) (by kernel_rfl) (by kernel_rfl) (det_move rfl) rfl ?_
        refine vh_take 14 rfl (by kernel_rfl) (by kernel_rfl) (by kernel_rfl) (det_add rfl rfl (w_i64 (by omega) (by omega))) rfl ?_
        refine vh_take 15 rfl (by kernel_rfl) (by kernel_rfl) (by kernel_rfl) (det_slice_both (i := s.at_) (j := s.at_ + q) (size := 1) Try.underlying41 (by kernel_rfl) rfl rfl rfl rfl rfl (by omega) (by omega)) rfl ?_
        refine vh_one 0 (by kernel_rfl) ?_
        refine st_eff rfl .no (eff_build_empty slT41) rfl (by rintro _ _ ⟨A23, rfl, rfl⟩; exact (by repeat (first | exact List.Sublist.refl _ | exact List.nil_sublist _ | exact List.sublist_append_right _ _ | apply List.Sublist.cons_cons | apply List.Sublist.cons))) ?_
        rintro _ _ ⟨A23, rfl, rfl⟩
        refine vh_one 16 (by kernel_rfl) ?_
        refine st_eff rfl .no (eff_app slT41 rfl (by repeat (first | exact .hd | apply Sel.tl)) rfl (by first | (exact Bor.own (by repeat (first | exact List.Mem.head _ | apply List.Mem.tail))) | (repeat (first | assumption | apply Bor.cons))) (by first | exact bv_one _ | exact strs_one _ | exact ints_one _ _ | (simp; done) | (simp [Value.oneCell']; done) | assumption) (by omega) (by omega)) rfl (by rintro _ _ ⟨A39, c39, rfl, rfl⟩; exact (by repeat (first | exact List.Sublist.refl _ | exact List.nil_sublist _ | exact List.sublist_append_right _ _ | apply List.Sublist.cons_cons | apply List.Sublist.cons))) ?_
        rintro _ _ ⟨A39, c39, rfl, rfl⟩
        refine vh_take 17 rfl (by kernel_rfl) (by kernel_rfl) (by kernel_rfl) (det_assign rfl) rfl ?_
        refine vh_done [(0, _), (1, _), (5, _)] ⟨rfl, rfl, rfl, trivial⟩ (by kernel_rfl) ?_
        refine then_next ?_
        refine vc_seq ?_
        refine vc_region ?_
        refine vl_det (det_move rfl) rfl ?_
        refine vl_det (det_move rfl) rfl ?_
        refine vl_det (det_nilCheck rfl) rfl ?_
        refine vl_det (det_fieldAddr_ Try.underlying135 rfl (by kernel_rfl) rfl rfl) rfl ?_
        refine vl_det (det_load_blk (by kernel_rfl) rfl (by repeat (first | exact .hd | apply Sel.tl)) rfl) rfl ?_
        refine vl_det (det_move rfl) rfl ?_
        refine vl_det (det_add rfl rfl (w_i64 (by omega) (by omega))) rfl ?_
        refine vl_det (det_nilCheck rfl) rfl ?_
        refine vl_det (det_fieldAddr_ Try.underlying135 rfl (by kernel_rfl) rfl rfl) rfl ?_
        refine vl_eff0 (eff_store (by kernel_rfl) rfl rfl rfl (by repeat (first | exact .hd | apply Sel.tl)) (by simp)) ?_
        rintro _ _ rfl
        refine vl_end [(5, _)] ⟨rfl, trivial⟩ ?_
        refine then_next ?_
        refine vc_seq ?_
        refine vc_region ?_
        refine vl_det (det_move rfl) rfl ?_
        refine vl_det (det_assign rfl) rfl ?_
        refine vl_end [(4, _)] ⟨rfl, trivial⟩ ?_
        refine then_next ?_
        refine vc_ret ?_
        have h0 : s.e = 0 := by omega
        have e1 : takeErr s.rest q = 0 := by unfold takeErr; rw [if_neg h12, if_neg (by omega)]
        have e2 : takeT s.rest q = s.rest.take q := by simp [takeT, e1]
        have e3 : takeK s.rest q = q := by simp [takeK, e1]
        have e4 : (s.rest.take q).length = q := by rw [List.length_take]; omega
        refine ret_wk (L' := Rv g A c ⟨s.b, s.at_ + q, 0⟩ :: .own 5 1 A39 (s.rest.take q).length c39 (bv (s.rest.take q)) :: F) (by rw [h0, e4]; exact .swap (.cons (wk_own (by omega) (by simp) (.refl _)))) ?_
        refine ret1 rfl rfl ?_
        rw [(Cs.take_mk h0 q).1, (Cs.take_mk h0 q).2, e1, e2, e3]
        exact ⟨A39, c39, by rw [e4]; simp, rfl⟩
theorem rctext_d (ho : CsOk s) (hb : Bor B w0 F 1 (.slice A s.b.length c) s.b.length (bv s.b)) {most : Int} (hm1 : -9223372036854775808 ≤ most) (hm2 : most ≤ 9223372036854775807) :
    Does Try.prog B w0 92 [.pointer (some ⟨g, 0, none⟩), .int .i64 most] (Rv g A c s :: F) (fun r L => r = .string ⟨(s.text most).toArray⟩ ∧ L = Rv g A c (s.text' most) :: F) := by
  have hint := rcint_d (g := g) ho hb hm1 hm2
  by_cases h0 : s.e = 0
  · have e : textS s.rest most = tex3 s.rest (limS s.rest most).1 (limS s.rest most).2.1 (limS s.rest most).2.2 := rfl
    have hf := limS_facts s.rest most hm2
    have hk0 : (limS s.rest most).2.2 ≠ 0 → (limS s.rest most).2.1 = 0 := fun h => (limS_err h).2
    rw [(Cs.int_mk h0 most).1, (Cs.int_mk h0 most).2] at hint
    rw [(Cs.text_mk h0 most).1, (Cs.text_mk h0 most).2, e]
    clear e
    generalize (limS s.rest most).1 = x at *
    generalize (limS s.rest most).2.1 = k at *
    generalize (limS s.rest most).2.2 = er at *
    have hlen := ho.len
    have hat := ho.at_
    have hrl := ho.rest.1
    have hsl : s.left = s.b.length - s.at_ := rfl
    have ho2 : CsOk ⟨s.b, s.at_ + k, er⟩ := ⟨by simp only; omega, hlen⟩
    have hl2 : Cs.left ⟨s.b, s.at_ + k, er⟩ = s.rest.length - k := by unfold Cs.left; simp only; omega
    have hr2 : Cs.rest ⟨s.b, s.at_ + k, er⟩ = s.rest.drop k := by simp [Cs.rest, List.drop_drop]
    refine fn_walk Try.func92 34 rfl rfl rfl [(0, .pointer (some ⟨g, 0, none⟩)), (1, .int .i64 most)] ⟨⟨rfl, rfl⟩, ⟨rfl, rfl⟩, trivial⟩ ?_
    refine vc_seq ?_
    refine vc_region ?_
    refine vl_det (det_assign rfl) rfl ?_
    refine vl_end [(0, _), (1, _)] ⟨rfl, rfl, trivial⟩ ?_
    refine then_next ?_
    refine vc_seq ?_
    refine vc_region ?_
    refine vl_det (det_move rfl) rfl ?_
    refine vl_det (det_nilCheck rfl) rfl ?_
    refine vl_det (det_fieldAddr_ Try.underlying135 rfl (by kernel_rfl) rfl rfl) rfl ?_
    refine vl_det (det_load_blk (by kernel_rfl) rfl (by repeat (first | exact .hd | apply Sel.tl)) rfl) rfl ?_
    refine vl_det (det_assign rfl) rfl ?_
    refine vl_end [(0, _), (1, _), (5, _)] ⟨rfl, rfl, rfl, trivial⟩ ?_
    refine then_next ?_
    refine vc_seq ?_
    refine vc_region ?_
    refine vl_det (det_move rfl) rfl ?_
    refine vl_det (det_move rfl) rfl ?_
    refine vl_call co90 rfl (hint) rfl ?_
    rintro _ _ ⟨rfl, hLL⟩
    obtain rfl := hLL.symm
    refine vl_det (det_assign rfl) rfl ?_
    refine vl_end [(0, _), (5, _), (6, _)] ⟨rfl, rfl, rfl, trivial⟩ ?_
    refine then_next ?_
    refine vc_seq ?_
    refine vc_seq ?_
    refine vc_region ?_
    refine vl_det (det_move rfl) rfl ?_
    refine vl_det (det_nilCheck rfl) rfl ?_
    refine vl_det (det_fieldAddr_ Try.underlying135 rfl (by kernel_rfl) rfl rfl) rfl ?_
    refine vl_det (det_load_blk (by kernel_rfl) rfl (by repeat (first | exact .hd | apply Sel.tl)) rfl) rfl ?_
    refine vl_det (det_neq rfl rfl) rfl ?_
    refine vl_end [(0, _), (5, _), (6, _), (18, _)] ⟨rfl, rfl, rfl, rfl, trivial⟩ ?_
    refine then_next ?_
    refine vc_decideU rfl (fun h18 => ?_) (fun h18 => ?_)
    · skip
      refine vc_seq ?_
      refine vc_region ?_
      refine vl_det (det_assign rfl) rfl ?_
      refine vl_end [(4, _)] ⟨rfl, trivial⟩ ?_
      refine then_next ?_
      refine vc_ret ?_
      refine then_ret ?_
      refine ret1 rfl rfl ?_
      have hk := hk0 h18
      subst hk
      rw [tex3_a h18]
      exact ⟨rfl, rfl⟩
    · skip
      refine vc_skip ?_
      refine then_next ?_
      refine vc_seq ?_
      refine vc_seq ?_
      refine vc_region ?_
      refine vl_det (det_move rfl) rfl ?_
      refine vl_det (det_move rfl) rfl ?_
      refine vl_call co93 rfl (rleft_d ho2) rfl ?_
      rintro _ _ ⟨rfl, hLL⟩
      obtain rfl := hLL.symm
      refine vl_det (det_gtr rfl rfl) rfl ?_
      refine vl_end [(0, _), (5, _), (6, _), (22, _)] ⟨rfl, rfl, rfl, rfl, trivial⟩ ?_
      refine then_next ?_
      refine vc_decideU rfl (fun h22 => ?_) (fun h22 => ?_)
      · skip
        refine vc_seq ?_
        refine vc_region ?_
        refine vl_det (det_move rfl) rfl ?_
        refine vl_det (det_move rfl) rfl ?_
        refine vl_det (det_nilCheck rfl) rfl ?_
        refine vl_det (det_fieldAddr_ Try.underlying135 rfl (by kernel_rfl) rfl rfl) rfl ?_
        refine vl_eff0 (eff_store (by kernel_rfl) rfl rfl rfl (by repeat (first | exact .hd | apply Sel.tl)) (by simp)) ?_
        rintro _ _ rfl
        refine vl_end [(0, _)] ⟨rfl, trivial⟩ ?_
        refine then_next ?_
        refine vc_seq ?_
        refine vc_region ?_
        refine vl_det (det_move rfl) rfl ?_
        refine vl_det (det_nilCheck rfl) rfl ?_
        refine vl_det (det_fieldAddr_ Try.underlying135 rfl (by kernel_rfl) rfl rfl) rfl ?_
        refine vl_eff0 (eff_store (by kernel_rfl) rfl rfl rfl (by repeat (first | exact .hd | apply Sel.tl)) (by simp)) ?_
        rintro _ _ rfl
        refine vl_end [] trivial ?_
        refine then_next ?_
        refine vc_seq ?_
        refine vc_region ?_
        refine vl_det (det_assign rfl) rfl ?_
        refine vl_end [(4, _)] ⟨rfl, trivial⟩ ?_
        refine then_next ?_
        refine vc_ret ?_
        refine then_ret ?_
        refine ret1 rfl rfl ?_
        rw [tex3_b h18 (by omega)]
        exact ⟨rfl, rfl⟩
      · skip
        refine vc_skip ?_
        refine then_next ?_
        refine vc_seq ?_
        refine vc_region ?_
        refine vl_det (det_move rfl) rfl ?_
        refine vl_det (det_move rfl) rfl ?_
        refine vl_call co91 rfl (rctake_d ho2 hb (m := (x : Int)) (by omega) (by omega)) rfl ?_
        rintro _ _ ⟨A32, c32, rfl, hLL⟩
        obtain rfl := hLL.symm
        refine vl_det (det_bstr Try.underlying41 Try.underlying5 Try.underlying9 rfl (by first | (exact Bor.own (by repeat (first | exact List.Mem.head _ | apply List.Mem.tail))) | (repeat (first | assumption | apply Bor.cons)))) rfl ?_
        refine vl_det (det_assign rfl) rfl ?_
        refine vl_end [(4, _)] ⟨rfl, trivial⟩ ?_
        refine then_next ?_
        refine vc_ret ?_
        have he0 : er = 0 := Classical.not_not.1 h18
        subst he0
        have e1 : takeErr (s.rest.drop k) x = 0 := by unfold takeErr; rw [if_neg (by omega), if_neg (by rw [List.length_drop]; omega)]
        have e2 : Cs.take ⟨s.b, s.at_ + k, 0⟩ x = (s.rest.drop k).take x := by rw [(Cs.take_mk rfl _).1, hr2]; simp [takeT, e1]
        have e3 : Cs.take' ⟨s.b, s.at_ + k, 0⟩ x = ⟨s.b, s.at_ + (k + x), 0⟩ := by rw [(Cs.take_mk rfl _).2, hr2, e1]; simp [takeK, e1, Nat.add_assoc]
        rw [e2, e3]
        refine ret_wk (L' := Rv g A c ⟨s.b, s.at_ + (k + x), 0⟩ :: F) (.cons (.skip (.refl _))) ?_
        refine ret1 rfl rfl ?_
        rw [tex3_c h18 (by omega)]
        exact ⟨rfl, rfl⟩
  · rw [((Cs.bad h0).2.2 most).1, ((Cs.bad h0).2.2 most).2.1] at hint
    rw [((Cs.bad h0).2.2 most).2.2.1, ((Cs.bad h0).2.2 most).2.2.2.1]
    refine fn_walk Try.func92 34 rfl rfl rfl [(0, .pointer (some ⟨g, 0, none⟩)), (1, .int .i64 most)] ⟨⟨rfl, rfl⟩, ⟨rfl, rfl⟩, trivial⟩ ?_
    refine vc_seq ?_
    refine vc_region ?_
    refine vl_det (det_assign rfl) rfl ?_
    refine vl_end [(0, _), (1, _)] ⟨rfl, rfl, trivial⟩ ?_
    refine then_next ?_
    refine vc_seq ?_
    refine vc_region ?_
    refine vl_det (det_move rfl) rfl ?_
    refine vl_det (det_nilCheck rfl) rfl ?_
    refine vl_det (det_fieldAddr_ Try.underlying135 rfl (by kernel_rfl) rfl rfl) rfl ?_
    refine vl_det (det_load_blk (by kernel_rfl) rfl (by repeat (first | exact .hd | apply Sel.tl)) rfl) rfl ?_
    refine vl_det (det_assign rfl) rfl ?_
    refine vl_end [(0, _), (1, _), (5, _)] ⟨rfl, rfl, rfl, trivial⟩ ?_
    refine then_next ?_
    refine vc_seq ?_
    refine vc_region ?_
    refine vl_det (det_move rfl) rfl ?_
    refine vl_det (det_move rfl) rfl ?_
    refine vl_call co90 rfl (hint) rfl ?_
    rintro _ _ ⟨rfl, hLL⟩
    obtain rfl := hLL.symm
    refine vl_det (det_assign rfl) rfl ?_
    refine vl_end [(0, _), (5, _), (6, _)] ⟨rfl, rfl, rfl, trivial⟩ ?_
    refine then_next ?_
    refine vc_seq ?_
    refine vc_seq ?_
    refine vc_region ?_
    refine vl_det (det_move rfl) rfl ?_
    refine vl_det (det_nilCheck rfl) rfl ?_
    refine vl_det (det_fieldAddr_ Try.underlying135 rfl (by kernel_rfl) rfl rfl) rfl ?_
    refine vl_det (det_load_blk (by kernel_rfl) rfl (by repeat (first | exact .hd | apply Sel.tl)) rfl) rfl ?_
    refine vl_det (det_neq rfl rfl) rfl ?_
    refine vl_end [(0, _), (5, _), (6, _), (18, _)] ⟨rfl, rfl, rfl, rfl, trivial⟩ ?_
    refine then_next ?_
    refine vc_decideU rfl (fun h18 => ?_) (fun h18 => ?_)
    · skip
      refine vc_seq ?_
      refine vc_region ?_
      refine vl_det (det_assign rfl) rfl ?_
      refine vl_end [(4, _)] ⟨rfl, trivial⟩ ?_
      refine then_next ?_
      refine vc_ret ?_
      refine then_ret ?_
      refine ret1 rfl rfl ?_
      exact ⟨rfl, rfl⟩
    · skip
      exfalso; exact h18 h0
theorem rcnew_d {l : List UInt8} (hb : Bor B w0 F 1 (.slice A l.length c) l.length (bv l)) (hl : l.length ≤ 1099511627776) :
    Does Try.prog B w0 89 [.slice A l.length c] F (fun r L => ∃ g A' c', r = .pointer (some ⟨g, 0, none⟩) ∧ L = Rv g A' c' ⟨l, 0, 0⟩ :: .own 5 1 A' l.length c' (bv l) :: F) := by
  refine fn_walk Try.func89 8 rfl rfl rfl [(0, .slice A l.length c)] ⟨⟨rfl, rfl⟩, trivial⟩ ?_
  refine vc_seq ?_
  refine vc_region ?_
  refine vl_det (det_assign rfl) rfl ?_
  refine vl_end [(0, _)] ⟨rfl, trivial⟩ ?_
  refine then_next ?_
  refine vc_seq ?_
  refine vc_region ?_
  refine vl_eff (eff_build_empty slT41) rfl ?_
  rintro _ _ ⟨A3, rfl, rfl⟩
  refine vl_det (det_move rfl) rfl ?_
  refine vl_eff (eff_app slT41 rfl (by repeat (first | exact .hd | apply Sel.tl)) rfl (by first | (exact Bor.own (by repeat (first | exact List.Mem.head _ | apply List.Mem.tail))) | (repeat (first | assumption | apply Bor.cons))) (by first | exact bv_one _ | exact strs_one _ | exact ints_one _ _ | (simp; done) | (simp [Value.oneCell']; done) | assumption) (by omega) (by omega)) rfl ?_
  rintro _ _ ⟨A5, c5, rfl, rfl⟩
  refine vl_det (det_buildp [(0, _)] [.slice none 0 0, .int .i64 0, .int .i64 0] [0] [_, _, _] rfl rfl (by kernel_rfl)) rfl ?_
  refine vl_eff (eff_box rfl rfl) rfl ?_
  rintro _ _ ⟨g7, rfl, rfl⟩
  refine vl_det (det_assign rfl) rfl ?_
  refine vl_end [(2, _)] ⟨rfl, trivial⟩ ?_
  refine then_next ?_
  refine vc_ret ?_
  refine ret_wk (L' := Rv g7 A5 c5 ⟨l, 0, 0⟩ :: .own 5 1 A5 l.length c5 (bv l) :: F) ?_ ?_
  · rw [Nat.zero_add, List.nil_append]; exact .refl _
  refine ret1 rfl rfl ?_
  exact ⟨g7, A5, c5, rfl, rfl⟩
end Go.Proofs.Ytpamjobiohbibaa
namespace Go.Proofs.Ytpamjobiohbibaa
open Go.RowKit
set_option linter.unusedVariables false
set_option maxRecDepth 20000
variable {B : Nat} {w0 : World} {F : List Ch} {A A1 A2 : Option Addr} {n c c1 c2 g : Nat} {s : Cs}
/-- numbers that were read, how many bytes, the error -/
def Rd13 (d : List Nat × Nat × Int) (F : List Ch) (r : Value) (L : List Ch) : Prop := ∃ A' c', r = .tuple #[.slice A' d.1.length c', .int .i64 d.2.1, .int .i64 d.2.2] ∧ L = .own 3 1 A' d.1.length c' (natv d.1) :: F
theorem rd13_err {k : Nat} {e : Int} {r : Value} (h : r = .tuple #[.slice none 0 0, .int .i64 k, .int .i64 e]) : Rd13 ([], k, e) F r (.own 3 1 none 0 0 [] :: F) := ⟨none, 0, h, rfl⟩
/-- the last one of a row, -1 ahead of the first -/
def wasO (O : List Nat) : Int := if O.length = 0 then -1 else (O.getD (O.length - 1) 0 : Nat)
theorem wasO_snoc (O : List Nat) (x : Nat) : wasO (O ++ [x]) = x := by
  unfold wasO
  rw [if_neg (by simp)]
  simp [List.getD_eq_getElem?_getD]
theorem rread13_d {bound : Int} {b : List UInt8} (hb : Bor B w0 F 1 (.slice A b.length c) b.length (bv b)) (hbl : b.length ≤ 100000) (hbd1 : -9223372036854775808 ≤ bound) (hbd2 : bound ≤ 9223372036854775807) :
    Does Try.prog B w0 53 [.int .i64 bound, .slice A b.length c] F (Rd13 (efRd bound b) F) := by
  have ho0 : CsOk ⟨b, 0, 0⟩ := ⟨Nat.zero_le _, by simp only; omega⟩
  have ho1 : CsOk (rdC bound b) := ho0.int' hbd2
  have hrb : (rdC bound b).b = b := Cs.moved_b _ _ _
  have hat : (rdC bound b).at_ ≤ b.length := by have := ho1.at_; rw [hrb] at this; exact this
  have hnb : 0 ≤ bound → (rdN bound b : Int) ≤ bound := fun h => by
    unfold rdN Cs.int
    rw [if_neg (by simp)]
    by_cases he : (limS (Cs.rest ⟨b, 0, 0⟩) bound).2.2 = 0
    · exact (limS_facts _ bound hbd2).2.2.2 he
    · rw [(limS_err he).1]; exact h
  have hcut := hb.cut hat
  have ecut : (bv b).drop ((rdC bound b).at_ * 1) = bv (b.drop (rdC bound b).at_) := by rw [Nat.mul_one, bv_drop]
  rw [ecut, show b.length - (rdC bound b).at_ = (b.drop (rdC bound b).at_).length from (List.length_drop ..).symm] at hcut
  have hdl : (b.drop (rdC bound b).at_).length ≤ b.length := by rw [List.length_drop]; omega
  have hint : ∀ {g : Nat} {A' : Option Addr} {c' : Nat} {F' : List Ch}, Bor B w0 F' 1 (.slice A' b.length c') b.length (bv b) → Does Try.prog B w0 90 [.pointer (some ⟨g, 0, none⟩), .int .i64 bound] (Rv g A' c' ⟨b, 0, 0⟩ :: F') (fun r L => r = .int .i64 (rdN bound b) ∧ L = Rv g A' c' (rdC bound b) :: F') := fun hb' => rcint_d ho0 hb' hbd1 hbd2
  refine fn_walk Try.func53 158 rfl rfl rfl [(0, .int .i64 bound), (1, .slice A b.length c)] ⟨⟨rfl, rfl⟩, ⟨rfl, rfl⟩, trivial⟩ ?_
  refine vc_seq ?_
  refine vc_region ?_
  refine vl_det (det_assign rfl) rfl ?_
  refine vl_det (det_assign rfl) rfl ?_
  refine vl_det (det_assign rfl) rfl ?_
  refine vl_end [(0, _), (1, _)] ⟨rfl, rfl, trivial⟩ ?_
  refine then_next ?_
  refine vc_seq ?_
  refine vc_seq ?_
  refine vc_region ?_
  refine vl_cut 6 27 [(0, _), (1, _)] (bound < 0 ∨ 20000 < bound) ⟨rfl, rfl, trivial⟩ ?_ ?_
  · skip
    refine vl_det (det_move rfl) rfl ?_
    refine vl_det (det_lss rfl rfl) rfl ?_
    refine vl_det (det_move rfl) rfl ?_
    refine vl_guardn rfl rfl rfl (fun h24 => ?_) (fun h24 => ?_)
    · skip
      refine vl_det (det_move rfl) rfl ?_
      refine vl_guard_t rfl rfl ?_
      refine vl_det (det_gtr rfl rfl) rfl ?_
      refine vl_det (det_pick_f rfl rfl) rfl ?_
      exact vl_cut_end ⟨rfl, rfl, trivial⟩ (by first | rfl | exact bool_to_t (by first | omega | simp_all) | exact bool_to_f (by first | omega | simp_all) | exact bool_to (by first | omega | simp_all) | exact bool_to_b (by first | omega | simp_all))
    · skip
      refine vl_guard_f rfl rfl rfl rfl ?_
      refine vl_det (det_pick_t rfl rfl) rfl ?_
      exact vl_cut_end ⟨rfl, rfl, trivial⟩ (by first | rfl | exact bool_to_t (by first | omega | simp_all) | exact bool_to_f (by first | omega | simp_all) | exact bool_to (by first | omega | simp_all) | exact bool_to_b (by first | omega | simp_all))
  · skip
    refine vl_end [(0, _), (1, _), (27, _)] ⟨rfl, rfl, rfl, trivial⟩ ?_
    refine then_next ?_
    refine vc_decideU rfl (fun h27 => ?_) (fun h27 => ?_)
    · skip
      refine vc_seq ?_
      refine vc_region ?_
      refine vl_det (det_assign rfl) rfl ?_
      refine vl_det (det_assign rfl) rfl ?_
      refine vl_det (det_assign rfl) rfl ?_
      refine vl_end [(4, _), (5, _), (6, _)] ⟨rfl, rfl, rfl, trivial⟩ ?_
      refine then_next ?_
      refine vc_ret ?_
      refine then_ret ?_
      rw [efRd_a h27]
      refine ret_nil_row 3 1 none ?_
      refine ret3_ rfl rfl rfl rfl ?_
      exact rd13_err rfl
    · skip
      obtain ⟨bn, rfl⟩ := Int.eq_ofNat_of_zero_le (show 0 ≤ bound by omega)
      have hnb' := hnb (by omega)
      refine vc_skip ?_
      refine then_next ?_
      refine vc_seq ?_
      refine vc_region ?_
      refine vl_det (det_move rfl) rfl ?_
      refine vl_call co89 rfl (rcnew_d hb (by omega)) rfl ?_
      rintro _ _ ⟨g29, A29, c29, rfl, hLL⟩
      obtain rfl := hLL.symm
      refine vl_det (det_assign rfl) rfl ?_
      refine vl_end [(0, _), (1, _), (7, _)] ⟨rfl, rfl, rfl, trivial⟩ ?_
      refine then_next ?_
      refine vc_seq ?_
      refine vc_region ?_
      refine vl_det (det_move rfl) rfl ?_
      refine vl_det (det_move rfl) rfl ?_
      refine vl_call co90 rfl (hint (by first | (exact Bor.own (by repeat (first | exact List.Mem.head _ | apply List.Mem.tail))) | (repeat (first | assumption | apply Bor.cons)))) rfl ?_
      rintro _ _ ⟨rfl, hLL⟩
      obtain rfl := hLL.symm
      refine vl_det (det_assign rfl) rfl ?_
      refine vl_end [(0, _), (1, _), (7, _), (8, _)] ⟨rfl, rfl, rfl, rfl, trivial⟩ ?_
      refine then_next ?_
      refine vc_seq ?_
      refine vc_seq ?_
      refine vc_region ?_
      refine vl_det (det_move rfl) rfl ?_
      refine vl_det (det_nilCheck rfl) rfl ?_
      refine vl_det (det_fieldAddr_ Try.underlying135 rfl (by kernel_rfl) rfl rfl) rfl ?_
      refine vl_det (det_load_blk (by kernel_rfl) rfl (by repeat (first | exact .hd | apply Sel.tl)) rfl) rfl ?_
      refine vl_det (det_neq rfl rfl) rfl ?_
      refine vl_end [(0, _), (1, _), (7, _), (8, _), (37, _)] ⟨rfl, rfl, rfl, rfl, rfl, trivial⟩ ?_
      refine then_next ?_
      refine vc_decideU rfl (fun h37 => ?_) (fun h37 => ?_)
      · skip
        refine vc_seq ?_
        refine vq_region (by kernel_rfl) (by kernel_rfl) ?_
        refine vq_det (det_move rfl) rfl ?_
        refine vq_det (det_nilCheck rfl) rfl ?_
        refine vq_det (det_fieldAddr_ Try.underlying135 rfl (by kernel_rfl) rfl rfl) rfl ?_
        refine vq_det (det_load_blk (by kernel_rfl) rfl (by repeat (first | exact .hd | apply Sel.tl)) rfl) rfl ?_
        refine vq_det (det_assign rfl) rfl ?_
        refine vq_det (det_assign rfl) rfl ?_
        refine vq_det (det_assign rfl) rfl ?_
        refine vq_end [(4, _), (5, _), (6, _)] ⟨rfl, rfl, rfl, trivial⟩ ?_
        refine then_next ?_
        refine vc_ret ?_
        refine then_ret ?_
        rw [efRd_b h27 h37]
        refine ret_nil_row 3 1 none ?_
        refine ret_wk (L' := .own 3 1 none 0 0 [] :: F) (.cons (.skip (.skip (.refl _)))) ?_
        refine ret3_ rfl rfl rfl rfl ?_
        exact rd13_err rfl
      · skip
        refine vc_skip ?_
        refine then_next ?_
        refine vc_seq ?_
        refine vc_seq ?_
        refine vc_region ?_
        refine vl_det (det_move rfl) rfl ?_
        refine vl_det (det_eql rfl rfl) rfl ?_
        refine vl_end [(0, _), (1, _), (7, _), (8, _), (43, _)] ⟨rfl, rfl, rfl, rfl, rfl, trivial⟩ ?_
        refine then_next ?_
        refine vc_decideU rfl (fun h43 => ?_) (fun h43 => ?_)
        · skip
          refine vc_seq ?_
          refine vq_region (by kernel_rfl) (by kernel_rfl) ?_
          refine vq_det (det_move rfl) rfl ?_
          refine vq_det (det_nilCheck rfl) rfl ?_
          refine vq_det (det_fieldAddr_ Try.underlying135 rfl (by kernel_rfl) rfl rfl) rfl ?_
          refine vq_det (det_load_blk (by kernel_rfl) rfl (by repeat (first | exact .hd | apply Sel.tl)) rfl) rfl ?_
          refine vq_det (det_assign rfl) rfl ?_
          refine vq_det (det_assign rfl) rfl ?_
          refine vq_det (det_assign rfl) rfl ?_
          refine vq_end [(4, _), (5, _), (6, _)] ⟨rfl, rfl, rfl, trivial⟩ ?_
          refine then_next ?_
          refine vc_ret ?_
          refine then_ret ?_
          rw [efRd_c h27 h37 (by omega)]
          refine ret_nil_row 3 1 none ?_
          refine ret_wk (L' := .own 3 1 none 0 0 [] :: F) (.cons (.skip (.skip (.refl _)))) ?_
          refine ret3_ rfl rfl rfl rfl ?_
          exact rd13_err rfl
        · skip
          have hR1 := @efRd_d bn b h27 h37 (by omega)
          have hR2 := @efRd_e bn b h27 h37 (by omega)
          obtain ⟨m, hm⟩ : ∃ m, m = rdN bn b := ⟨_, rfl⟩
          obtain ⟨d, hd⟩ : ∃ d, d = (rdC bn b).at_ := ⟨_, rfl⟩
          obtain ⟨bb, hbb⟩ : ∃ bb, bb = b.drop d := ⟨_, rfl⟩
          have hRR : rdR bn b = efRow bn m bb := by rw [hbb, hd, hm]; unfold rdR; rw [Int.toNat_natCast]
          rw [hRR] at hR1 hR2
          rw [← hm] at hnb' h43 ⊢
          rw [← hd] at hcut hat hR2 hdl
          rw [← hbb] at hcut hdl
          have hb2 : bn ≤ 20000 := by omega
          have hm1 : 1 ≤ m := by omega
          have hmb : m ≤ bn := by omega
          have hul := unp_length bb
          have hwl := wid_le (n := m) hb2
          have hwd : wid bn m = Nat.log2 (bn / m) := rfl
          have hq20 : bn / m ≤ 20000 := Nat.le_trans (Nat.div_le_self _ _) (by omega)
          have hq1 : 1 ≤ bn / m := (Nat.le_div_iff_mul_le (by omega)).2 (by omega)
          have hF0 : efF bn m bb = rwF bn (2 ^ wid bn m) (unp bb) (loR (unp bb) (wid bn m) m) (m * wid bn m) 0 (-1) [] := rfl
          have hRest : efRest bn m bb = ((unp bb).length - (efF bn m bb).2.1) % 8 := rfl
          have hEl := @efRow_lo bn m bb
          have hEe := @efRow_e bn m bb
          have hEp := @efRow_p bn m bb
          have hEo := @efRow_ok bn m bb
          have hbl2 : bb.length ≤ 100000 := by omega
          have hdrop : b.length - d = bb.length := by rw [hbb, List.length_drop]
          obtain ⟨q, hq⟩ : ∃ q, q = unp bb := ⟨_, rfl⟩
          rw [← hq] at hul hF0 hRest hEl hEe hEp hEo
          obtain ⟨w, hw⟩ : ∃ w, w = wid bn m := ⟨_, rfl⟩
          rw [← hw] at hwl hF0 hwd hEl hEe hEp hEo
          obtain ⟨p, hp⟩ : ∃ p, p = 2 ^ w := ⟨_, rfl⟩
          rw [← hp] at hF0
          have hp0 : 1 ≤ p := by rw [hp]; exact Nat.one_le_two_pow
          have hpb : p ≤ 16384 := by rw [hp]; exact pow_le14 hwl
          have hlol := loR_length q w m
          have hmw : m * w ≤ 20000 * 14 := Nat.mul_le_mul (by omega) hwl
          refine vc_skip ?_
          refine then_next ?_
          refine vc_seq ?_
          refine vc_region ?_
          refine vl_det (det_move rfl) rfl ?_
          refine vl_det (det_move rfl) rfl ?_
          refine vl_det (det_quo rfl rfl (by omega) (divP (by omega))) rfl ?_
          refine vl_call co75 rfl (rwidth_d (bn / m) hq1 hq20) rfl ?_
          rintro _ _ ⟨rfl, hLL⟩
          obtain rfl := hLL.symm
          rw [← hwd, ← hp]
          refine vl_det (det_move rfl) rfl ?_
          refine vl_det (det_extract rfl rfl) rfl ?_
          refine vl_det (det_extract rfl rfl) rfl ?_
          refine vl_det (det_assign rfl) rfl ?_
          refine vl_det (det_assign rfl) rfl ?_
          refine vl_end [(0, _), (1, _), (7, _), (8, _), (9, _), (10, _)] ⟨rfl, rfl, rfl, rfl, rfl, rfl, trivial⟩ ?_
          refine then_next ?_
          refine vc_seq ?_
          refine vc_region ?_
          refine vl_det (det_move rfl) rfl ?_
          refine vl_det (det_move rfl) rfl ?_
          refine vl_det (det_nilCheck rfl) rfl ?_
          refine vl_det (det_fieldAddr_ Try.underlying135 rfl (by kernel_rfl) rfl rfl) rfl ?_
          refine vl_det (det_load_blk (by kernel_rfl) rfl (by repeat (first | exact .hd | apply Sel.tl)) rfl) rfl ?_
          refine vl_det (det_slice_lo (i := d) (size := 1) Try.underlying41 (by kernel_rfl) rfl rfl (by rw [hd]) hat) rfl ?_
          rw [hdrop]
          refine vl_call co94 rfl (newf_d (by first | (exact Bor.own (by repeat (first | exact List.Mem.head _ | apply List.Mem.tail))) | (repeat (first | assumption | apply Bor.cons))) (by omega)) rfl ?_
          rintro _ _ ⟨g61, A61, c61, rfl, hLL⟩
          obtain rfl := hLL.symm
          rw [← hq]
          refine vl_det (det_assign rfl) rfl ?_
          refine vl_end [(0, _), (7, _), (8, _), (9, _), (10, _), (11, _)] ⟨rfl, rfl, rfl, rfl, rfl, rfl, trivial⟩ ?_
          refine then_next ?_
          refine vc_seq ?_
          refine vc_nil_row 3 1 none ?_
          refine vc_region ?_
          refine vl_det (det_assign rfl) rfl ?_
          refine vl_end [(0, _), (7, _), (8, _), (9, _), (10, _), (11, _), (12, _)] ⟨rfl, rfl, rfl, rfl, rfl, rfl, rfl, trivial⟩ ?_
          refine then_next ?_
          refine vc_seq ?_
          refine vc_seq ?_
          refine vc_region ?_
          refine vl_det (det_assign rfl) rfl ?_
          refine vl_end [(0, _), (7, _), (8, _), (9, _), (10, _), (11, _), (12, _), (13, _)] ⟨rfl, rfl, rfl, rfl, rfl, rfl, rfl, rfl, trivial⟩ ?_
          refine then_next ?_
          refine vc_block ?_
          refine vc_loopJ (fun zf zL zm => ∃ (k : Nat) (A12 : Option Addr) (c12 : Nat), (k ≤ m ∧ k * w ≤ q.length) ∧ m - k = zm ∧ Sub zf [(0, .int .i64 bn), (7, .pointer (some ⟨g29, 0, none⟩)), (8, .int .i64 m), (9, .int .i64 w), (10, .int .i64 p), (11, .pointer (some ⟨g61, 0, none⟩)), (12, .slice A12 k c12), (13, .int .i64 k)] ∧ Wk zL (Rf g61 A61 c61 q (k * w) (.own 3 1 A12 k c12 (natv (loR q w k)) :: Rv g29 A29 c29 (rdC bn b) :: .own 5 1 A29 b.length c29 (bv b) :: F))) _ ⟨0, none, 0, ⟨Nat.zero_le _, by rw [Nat.zero_mul]; exact Nat.zero_le _⟩, rfl, ⟨(by first | rfl | exact int_to (by omega) | exact sl_to (by omega)), (by first | rfl | exact int_to (by omega) | exact sl_to (by omega)), (by first | rfl | exact int_to (by omega) | exact sl_to (by omega)), (by first | rfl | exact int_to (by omega) | exact sl_to (by omega)), (by first | rfl | exact int_to (by omega) | exact sl_to (by omega)), (by first | rfl | exact int_to (by omega) | exact sl_to (by omega)), (by first | rfl | exact int_to (by omega) | exact sl_to (by omega)), (by first | rfl | exact int_to (by omega) | exact sl_to (by omega)), trivial⟩, by rw [Nat.zero_mul]; exact (wu1 (wu1 (wu0 (.refl _))))⟩ ?_
          rintro _ _ _ ⟨k, A12, c12, ⟨hk, hkq⟩, rfl, hs, hp⟩
          refine vc_weaken _ hs (vc_wk hp ?_)
          clear hs hp
          refine vc_seq ?_
          refine vc_seq ?_
          refine vc_region ?_
          refine vl_det (det_move rfl) rfl ?_
          refine vl_det (det_move rfl) rfl ?_
          refine vl_det (det_lss rfl rfl) rfl ?_
          refine vl_end [(0, _), (7, _), (8, _), (9, _), (10, _), (11, _), (12, _), (13, _), (64, _)] ⟨rfl, rfl, rfl, rfl, rfl, rfl, rfl, rfl, rfl, trivial⟩ ?_
          refine then_next ?_
          refine vc_decideU rfl (fun h64 => ?_) (fun h64 => ?_)
          · skip
            have hks : (k + 1) * w = k * w + w := Nat.succ_mul k w
            have hkm : (k + 1) * w ≤ m * w := Nat.mul_le_mul_right w (by omega)
            have hpl := part_lt q (k * w) w
            rw [← hp] at hpl
            refine vc_skip ?_
            refine then_next ?_
            refine vc_seq ?_
            refine vc_block ?_
            refine vc_seq ?_
            refine vc_region ?_
            refine vl_det (det_move rfl) rfl ?_
            refine vl_det (det_move rfl) rfl ?_
            refine vl_call co95 rfl (rget_d q (k * w) hkq (by omega) w (by omega) (by omega)) rfl ?_
            rintro _ _ ⟨rfl, hLL⟩
            obtain rfl := hLL.symm
            refine vl_det (det_move rfl) rfl ?_
            refine vl_det (det_extract rfl rfl) rfl ?_
            refine vl_det (det_extract rfl rfl) rfl ?_
            refine vl_det (det_assign rfl) rfl ?_
            refine vl_det (det_assign rfl) rfl ?_
            refine vl_end [(0, _), (7, _), (8, _), (9, _), (10, _), (11, _), (12, _), (13, _), (14, _), (15, _)] ⟨rfl, rfl, rfl, rfl, rfl, rfl, rfl, rfl, rfl, rfl, trivial⟩ ?_
            refine then_next ?_
            refine vc_seq ?_
            refine vc_seq ?_
            refine vc_region ?_
            refine vl_det (det_move rfl) rfl ?_
            refine vl_det (det_neq rfl rfl) rfl ?_
            refine vl_end [(0, _), (7, _), (8, _), (9, _), (10, _), (11, _), (12, _), (13, _), (14, _), (15, _), (74, _)] ⟨rfl, rfl, rfl, rfl, rfl, rfl, rfl, rfl, rfl, rfl, rfl, trivial⟩ ?_
            refine then_next ?_
            refine vc_decideU rfl (fun h74 => ?_) (fun h74 => ?_)
            · skip
              have hlt : q.length < m * w := Classical.byContradiction fun h => h74 (by unfold gtE; rw [if_neg (by omega), if_neg (by omega)])
              have hgE : gtE q (k * w) w = 1 := by unfold gtE; rw [if_neg (by omega), if_pos (Classical.byContradiction fun h => h74 (by unfold gtE; rw [if_neg (by omega), if_neg h]))]
              have hz := hEl hlt
              rw [hz] at hR1
              refine vc_seq ?_
              refine vc_region ?_
              refine vl_det (det_move rfl) rfl ?_
              refine vl_det (det_assign rfl) rfl ?_
              refine vl_det (det_assign rfl) rfl ?_
              refine vl_det (det_assign rfl) rfl ?_
              refine vl_end [(4, _), (5, _), (6, _)] ⟨rfl, rfl, rfl, trivial⟩ ?_
              refine then_next ?_
              refine vc_ret ?_
              refine then_ret ?_
              refine in_ret ?_
              refine then_ret ?_
              refine loop_ret ?_
              refine in_ret ?_
              refine then_ret ?_
              rw [hR1 (by decide)]
              refine ret_nil_row 3 1 none ?_
              refine ret_wk (L' := .own 3 1 none 0 0 [] :: F) (.cons (.skip (.skip (.skip (.skip (.skip (.refl _))))))) ?_
              refine ret3_ rfl rfl rfl rfl ?_
              exact rd13_err (by rw [hgE]; rfl)
            · skip
              have hge : k * w + w ≤ q.length := Classical.byContradiction fun h => h74 (by unfold gtE; rw [if_neg (by omega), if_pos (by omega)]; decide)
              have hgv : gtV q (k * w) w = part q (k * w) w := by unfold gtV; rw [if_neg (by omega), if_neg (by omega), Int.toNat_natCast]
              have hgp : gtP q (k * w) w = (k + 1) * w := by unfold gtP; rw [if_neg (by omega), if_neg (by omega), Int.toNat_natCast, hks]
              rw [hgv, hgp]
              refine vc_skip ?_
              refine then_next ?_
              refine vc_region ?_
              refine vl_det (det_move rfl) rfl ?_
              refine vl_det (det_move rfl) rfl ?_
              refine vl_det (det_conv Try.underlying33 Try.underlying3 rfl (w_i64 (by omega) (by omega))) rfl ?_
              refine vl_push slT37 rfl rfl rfl rfl rfl (fun _ => rfl) (by repeat (first | exact .hd | apply Sel.tl)) (by omega) (by omega) ?_
              intro _ A80 c80
              refine vl_det (det_assign rfl) rfl ?_
              refine vl_end [(0, _), (7, _), (8, _), (9, _), (10, _), (11, _), (12, _), (13, _)] ⟨rfl, rfl, rfl, rfl, rfl, rfl, rfl, rfl, trivial⟩ ?_
              refine in_normal ?_
              refine then_next ?_
              refine vc_region ?_
              refine vl_det (det_move rfl) rfl ?_
              refine vl_det (det_add rfl rfl (w_i64 (by omega) (by omega))) rfl ?_
              refine vl_det (det_assign rfl) rfl ?_
              refine vl_end [(0, _), (7, _), (8, _), (9, _), (10, _), (11, _), (12, _), (13, _)] ⟨rfl, rfl, rfl, rfl, rfl, rfl, rfl, rfl, trivial⟩ ?_
              refine in_loop_ ⟨_, by omega, k + 1, A80, c80, ⟨by omega, by omega⟩, rfl, ⟨(by first | rfl | exact int_to (by omega) | exact sl_to (by omega)), (by first | rfl | exact int_to (by omega) | exact sl_to (by omega)), (by first | rfl | exact int_to (by omega) | exact sl_to (by omega)), (by first | rfl | exact int_to (by omega) | exact sl_to (by omega)), (by first | rfl | exact int_to (by omega) | exact sl_to (by omega)), (by first | rfl | exact int_to (by omega) | exact sl_to (by omega)), (by first | rfl | exact int_to (by omega) | exact sl_to (by omega)), (by first | rfl | exact int_to (by omega) | exact sl_to (by omega)), trivial⟩, .cons (.cons (wk_own rfl (by rw [loR_succ]; simp [natv]) (.refl _)))⟩
          · skip
            obtain rfl : k = m := by omega
            have hE : ¬ q.length < k * w := by omega
            have hEe := hEe hE
            have hEp := hEp hE
            have hEo := hEo hE
            refine vc_exit ?_
            refine then_exit ?_
            refine loop_exit ?_
            refine in_eq ?_
            refine then_next ?_
            refine vc_seq ?_
            refine vc_region ?_
            refine vl_det (det_assign rfl) rfl ?_
            refine vl_end [(0, _), (7, _), (8, _), (10, _), (11, _), (12, _), (16, _)] ⟨rfl, rfl, rfl, rfl, rfl, rfl, rfl, trivial⟩ ?_
            refine then_next ?_
            refine vc_seq ?_
            refine vc_nil_row 3 1 none ?_
            refine vc_region ?_
            refine vl_det (det_assign rfl) rfl ?_
            refine vl_end [(0, _), (7, _), (8, _), (10, _), (11, _), (12, _), (16, _), (17, _)] ⟨rfl, rfl, rfl, rfl, rfl, rfl, rfl, rfl, trivial⟩ ?_
            refine then_next ?_
            refine vc_seq ?_
            refine vc_seq ?_
            refine vc_region ?_
            refine vl_det (det_assign rfl) rfl ?_
            refine vl_end [(0, _), (7, _), (8, _), (10, _), (11, _), (12, _), (16, _), (17, _), (18, _)] ⟨rfl, rfl, rfl, rfl, rfl, rfl, rfl, rfl, rfl, trivial⟩ ?_
            refine then_next ?_
            refine vc_block ?_
            refine vc_loopJ (fun zf zL zm => ∃ (i pos high : Nat) (O : List Nat) (A16 : Option Addr) (c16 : Nat), (i ≤ k ∧ pos ≤ q.length ∧ high ≤ 20000 ∧ O.length = i ∧ rwF bn p q ((loR q w k).drop i) pos high (wasO O) O = efF bn k bb) ∧ k - i = zm ∧ Sub zf [(0, .int .i64 bn), (7, .pointer (some ⟨g29, 0, none⟩)), (8, .int .i64 k), (10, .int .i64 p), (11, .pointer (some ⟨g61, 0, none⟩)), (12, .slice A12 k c12), (16, .slice A16 O.length c16), (17, .int .i64 high), (18, .int .i64 i)] ∧ Wk zL (Rf g61 A61 c61 q pos (.own 3 1 A16 O.length c16 (natv O) :: .own 3 1 A12 k c12 (natv (loR q w k)) :: Rv g29 A29 c29 (rdC bn b) :: .own 5 1 A29 b.length c29 (bv b) :: F))) _ ⟨0, k * w, 0, [], none, 0, ⟨Nat.zero_le _, hkq, Nat.zero_le _, rfl, hF0.symm⟩, rfl, ⟨(by first | rfl | exact int_to (by omega) | exact sl_to (by omega)), (by first | rfl | exact int_to (by omega) | exact sl_to (by omega)), (by first | rfl | exact int_to (by omega) | exact sl_to (by omega)), (by first | rfl | exact int_to (by omega) | exact sl_to (by omega)), (by first | rfl | exact int_to (by omega) | exact sl_to (by omega)), (by first | rfl | exact int_to (by omega) | exact sl_to (by omega)), (by first | rfl | exact int_to (by omega) | exact sl_to (by omega)), (by first | rfl | exact int_to (by omega) | exact sl_to (by omega)), (by first | rfl | exact int_to (by omega) | exact sl_to (by omega)), trivial⟩, (wu1 (wu1 (wu0 (.refl _))))⟩ ?_
            rintro _ _ _ ⟨i, pos, high, O, A16, c16, ⟨hi, hpos, hhi, hol, hG⟩, rfl, hs, hp⟩
            refine vc_weaken _ hs (vc_wk hp ?_)
            clear hs hp
            refine vc_seq ?_
            refine vc_seq ?_
            refine vc_region ?_
            refine vl_det (det_move rfl) rfl ?_
            refine vl_det (det_move rfl) rfl ?_
            refine vl_det (det_lss rfl rfl) rfl ?_
            refine vl_end [(0, _), (7, _), (8, _), (10, _), (11, _), (12, _), (16, _), (17, _), (18, _), (83, _)] ⟨rfl, rfl, rfl, rfl, rfl, rfl, rfl, rfl, rfl, rfl, trivial⟩ ?_
            refine then_next ?_
            refine vc_decideU rfl (fun h83 => ?_) (fun h83 => ?_)
            · skip
              have hx := loR_get (q := q) (w := w) (m := k) (k := i) (by omega)
              have hxl := part_lt q (i * w) w
              have hdd := drop_getD (l := loR q w k) (k := i) (by omega) 0
              have hld := natv_get (l := loR q w k) (k := i) (by omega)
              obtain ⟨x, hxx⟩ : ∃ x, x = (loR q w k).getD i 0 := ⟨_, rfl⟩
              rw [← hxx] at hld
              rw [← hx, ← hxx, ← hp] at hxl
              rw [hdd, ← hxx, rwF] at hG
              have hzg := zp_ge q pos
              have hzl := zp_le q hpos
              have hw0 : i = 0 → wasO O = -1 := fun h => by unfold wasO; rw [if_pos (by omega)]
              have hw1 : 0 < i → wasO O = (O.getD (i - 1) 0 : Nat) := fun h => by unfold wasO; rw [if_neg (by omega), hol]
              refine vc_skip ?_
              refine then_next ?_
              refine vc_seq ?_
              refine vc_block ?_
              refine vc_seq ?_
              refine vc_region ?_
              refine vl_det (det_move rfl) rfl ?_
              refine vl_call co96 rfl (runaryr_d q pos hpos (by omega)) rfl ?_
              rintro _ _ ⟨rfl, hLL⟩
              obtain rfl := hLL.symm
              refine vl_det (det_move rfl) rfl ?_
              refine vl_det (det_extract rfl rfl) rfl ?_
              refine vl_det (det_extract rfl rfl) rfl ?_
              refine vl_det (det_assign rfl) rfl ?_
              refine vl_det (det_assign rfl) rfl ?_
              refine vl_end [(0, _), (7, _), (8, _), (10, _), (11, _), (12, _), (16, _), (17, _), (18, _), (19, _), (20, _)] ⟨rfl, rfl, rfl, rfl, rfl, rfl, rfl, rfl, rfl, rfl, rfl, trivial⟩ ?_
              refine then_next ?_
              refine vc_seq ?_
              refine vc_seq ?_
              refine vc_region ?_
              refine vl_det (det_move rfl) rfl ?_
              refine vl_det (det_neq rfl rfl) rfl ?_
              refine vl_end [(0, _), (7, _), (8, _), (10, _), (11, _), (12, _), (16, _), (17, _), (18, _), (19, _), (20, _), (92, _)] ⟨rfl, rfl, rfl, rfl, rfl, rfl, rfl, rfl, rfl, rfl, rfl, rfl, trivial⟩ ?_
              refine then_next ?_
              refine vc_decideU rfl (fun h92 => ?_) (fun h92 => ?_)
              · skip
                have hnz : ¬ Z q pos < q.length := fun h => h92 (by unfold unR; rw [if_pos h])
                have hr1 : unR q pos = 1 := by unfold unR; rw [if_neg hnz]
                rw [if_pos hnz] at hG
                have hz := hEe (by rw [← hG]; decide)
                rw [← hG] at hz
                rw [hz] at hR1
                refine vc_seq ?_
                refine vc_region ?_
                refine vl_det (det_move rfl) rfl ?_
                refine vl_det (det_assign rfl) rfl ?_
                refine vl_det (det_assign rfl) rfl ?_
                refine vl_det (det_assign rfl) rfl ?_
                refine vl_end [(4, _), (5, _), (6, _)] ⟨rfl, rfl, rfl, trivial⟩ ?_
                refine then_next ?_
                refine vc_ret ?_
                refine then_ret ?_
                refine in_ret ?_
                refine then_ret ?_
                refine loop_ret ?_
                refine in_ret ?_
                refine then_ret ?_
                rw [hR1 (by decide)]
                refine ret_nil_row 3 1 none ?_
                refine ret_wk (L' := .own 3 1 none 0 0 [] :: F) (.cons (.skip (.skip (.skip (.skip (.skip (.skip (.refl _)))))))) ?_
                refine ret3_ rfl rfl rfl rfl ?_
                exact rd13_err (by rw [hr1]; rfl)
              · skip
                have hnz : Z q pos < q.length := Classical.byContradiction fun h => h92 (by unfold unR; rw [if_neg h]; decide)
                have hv : unV q pos = ((Z q pos - pos : Nat) : Int) := by unfold unV; rw [if_pos hnz]; omega
                have hu : unP q pos = Z q pos + 1 := by unfold unP; rw [if_pos hnz]
                rw [hv, hu]
                rw [if_neg (by simpa using hnz)] at hG
                obtain ⟨h2, hh2⟩ : ∃ h2, h2 = high + (Z q pos - pos) := ⟨_, rfl⟩
                rw [← hh2] at hG
                have hmul : h2 * p ≤ 1000000 * 16384 := Nat.mul_le_mul (by omega) hpb
                obtain ⟨id, hid⟩ : ∃ id, id = h2 * p + x := ⟨_, rfl⟩
                rw [← hid] at hG
                refine vc_skip ?_
                refine then_next ?_
                refine vc_seq ?_
                refine vc_region ?_
                refine vl_det (det_move rfl) rfl ?_
                refine vl_det (det_move rfl) rfl ?_
                refine vl_det (det_add rfl rfl (r := (h2 : Int)) ((w_i64 (by omega) (by omega)).trans (by omega))) rfl ?_
                refine vl_det (det_assign rfl) rfl ?_
                refine vl_end [(0, _), (7, _), (8, _), (10, _), (11, _), (12, _), (16, _), (17, _), (18, _)] ⟨rfl, rfl, rfl, rfl, rfl, rfl, rfl, rfl, rfl, trivial⟩ ?_
                refine then_next ?_
                refine vc_seq ?_
                refine vc_region ?_
                refine vl_det (det_move rfl) rfl ?_
                refine vl_det (det_move rfl) rfl ?_
                refine vl_det (det_mul rfl rfl (r := ((h2 * p : Nat) : Int)) ((w_i64 (by rw [← Int.natCast_mul]; omega) (by rw [← Int.natCast_mul]; omega)).trans (Int.natCast_mul h2 p).symm)) rfl ?_
                refine vl_det (det_move rfl) rfl ?_
                refine vl_det (det_move rfl) rfl ?_
                refine vl_det (det_indexAddr (size := 1) Try.underlying37 (by kernel_rfl) rfl rfl rfl (by omega) (by first | (exact Bor.own (by repeat (first | exact List.Mem.head _ | apply List.Mem.tail))) | (repeat (first | assumption | apply Bor.cons)))) rfl ?_
                refine vl_det (det_load_row (by kernel_rfl) rfl (by first | (exact Bor.own (by repeat (first | exact List.Mem.head _ | apply List.Mem.tail))) | (repeat (first | assumption | apply Bor.cons))) (by omega) hld) rfl ?_
                refine vl_det (det_add rfl rfl (r := (id : Int)) ((w_i64 (by omega) (by omega)).trans (by omega))) rfl ?_
                refine vl_det (det_assign rfl) rfl ?_
                refine vl_end [(0, _), (7, _), (8, _), (10, _), (11, _), (12, _), (16, _), (17, _), (18, _), (21, _)] ⟨rfl, rfl, rfl, rfl, rfl, rfl, rfl, rfl, rfl, rfl, trivial⟩ ?_
                refine then_next ?_
                refine vc_seq ?_
                refine vc_seq ?_
                refine vc_region ?_
                refine vl_cut 11 115 [(0, _), (7, _), (8, _), (10, _), (11, _), (12, _), (16, _), (17, _), (18, _), (21, _)] ((id : Int) ≤ wasO O) ⟨rfl, rfl, rfl, rfl, rfl, rfl, rfl, rfl, rfl, rfl, trivial⟩ ?_ ?_
                · skip
                  refine vl_det (det_move rfl) rfl ?_
                  refine vl_det (det_gtr rfl rfl) rfl ?_
                  refine vl_det (det_move rfl) rfl ?_
                  refine vl_guardp rfl rfl rfl (fun h107 => ?_) (fun h107 => ?_)
                  · skip
                    refine vl_det (det_move rfl) rfl ?_
                    refine vl_guard_t rfl rfl ?_
                    refine vl_det (det_move rfl) rfl ?_
                    refine vl_guard_t rfl rfl ?_
                    refine vl_det (det_move rfl) rfl ?_
                    refine vl_guard_t rfl rfl ?_
                    refine vl_det (det_sub rfl rfl (w_i64 (by omega) (by omega))) rfl ?_
                    refine vl_guard_t rfl rfl ?_
                    refine vl_det (det_indexAddr (i := i - 1) (size := 1) Try.underlying37 (by kernel_rfl) rfl rfl (by omega) (by omega) (by first | (exact Bor.own (by repeat (first | exact List.Mem.head _ | apply List.Mem.tail))) | (repeat (first | assumption | apply Bor.cons)))) rfl ?_
                    refine vl_guard_t rfl rfl ?_
                    refine vl_det (det_load_row (by kernel_rfl) rfl (by first | (exact Bor.own (by repeat (first | exact List.Mem.head _ | apply List.Mem.tail))) | (repeat (first | assumption | apply Bor.cons))) (by omega) (natv_get (l := O) (k := i - 1) (by omega))) rfl ?_
                    refine vl_guard_t rfl rfl ?_
                    refine vl_det (det_leq rfl rfl) rfl ?_
                    refine vl_det (det_pick_t rfl rfl) rfl ?_
                    exact vl_cut_end ⟨rfl, rfl, rfl, rfl, rfl, rfl, rfl, rfl, rfl, rfl, trivial⟩ (by first | rfl | exact bool_to_t (by first | (have := hw1 (by omega); omega) | (have := hw0 (by omega); omega)) | exact bool_to_f (by first | (have := hw1 (by omega); omega) | (have := hw0 (by omega); omega)) | exact bool_to (by first | (have := hw1 (by omega); omega) | (have := hw0 (by omega); omega)) | exact bool_to_b (by first | (have := hw1 (by omega); omega) | (have := hw0 (by omega); omega)))
                  · skip
                    refine vl_guard_f rfl rfl rfl rfl ?_
                    refine vl_guard_f rfl rfl rfl rfl ?_
                    refine vl_guard_f rfl rfl rfl rfl ?_
                    refine vl_guard_f rfl rfl rfl rfl ?_
                    refine vl_guard_f rfl rfl rfl rfl ?_
                    refine vl_guard_f rfl rfl rfl rfl ?_
                    refine vl_det (det_pick_f rfl rfl) rfl ?_
                    exact vl_cut_end ⟨rfl, rfl, rfl, rfl, rfl, rfl, rfl, rfl, rfl, rfl, trivial⟩ (by first | rfl | exact bool_to_t (by first | (have := hw1 (by omega); omega) | (have := hw0 (by omega); omega)) | exact bool_to_f (by first | (have := hw1 (by omega); omega) | (have := hw0 (by omega); omega)) | exact bool_to (by first | (have := hw1 (by omega); omega) | (have := hw0 (by omega); omega)) | exact bool_to_b (by first | (have := hw1 (by omega); omega) | (have := hw0 (by omega); omega)))
                · skip
                  refine vl_end [(0, _), (7, _), (8, _), (10, _), (11, _), (12, _), (16, _), (17, _), (18, _), (21, _), (115, _)] ⟨rfl, rfl, rfl, rfl, rfl, rfl, rfl, rfl, rfl, rfl, rfl, trivial⟩ ?_
                  refine then_next ?_
                  refine vc_decideU rfl (fun h115 => ?_) (fun h115 => ?_)
                  · skip
                    rw [if_pos h115] at hG
                    have hz := hEe (by rw [← hG]; decide)
                    rw [← hG] at hz
                    rw [hz] at hR1
                    refine vc_seq ?_
                    refine vc_region ?_
                    refine vl_det (det_assign rfl) rfl ?_
                    refine vl_det (det_assign rfl) rfl ?_
                    refine vl_det (det_assign rfl) rfl ?_
                    refine vl_end [(4, _), (5, _), (6, _)] ⟨rfl, rfl, rfl, trivial⟩ ?_
                    refine then_next ?_
                    refine vc_ret ?_
                    refine then_ret ?_
                    refine in_ret ?_
                    refine then_ret ?_
                    refine loop_ret ?_
                    refine in_ret ?_
                    refine then_ret ?_
                    rw [hR1 (by decide)]
                    refine ret_nil_row 3 1 none ?_
                    refine ret_wk (L' := .own 3 1 none 0 0 [] :: F) (.cons (.skip (.skip (.skip (.skip (.skip (.skip (.refl _)))))))) ?_
                    refine ret3_ rfl rfl rfl rfl ?_
                    exact rd13_err rfl
                  · skip
                    rw [if_neg h115] at hG
                    refine vc_skip ?_
                    refine then_next ?_
                    refine vc_seq ?_
                    refine vc_seq ?_
                    refine vc_region ?_
                    refine vl_det (det_move rfl) rfl ?_
                    refine vl_det (det_move rfl) rfl ?_
                    refine vl_det (det_geq rfl rfl) rfl ?_
                    refine vl_end [(0, _), (7, _), (8, _), (10, _), (11, _), (12, _), (16, _), (17, _), (18, _), (21, _), (118, _)] ⟨rfl, rfl, rfl, rfl, rfl, rfl, rfl, rfl, rfl, rfl, rfl, trivial⟩ ?_
                    refine then_next ?_
                    refine vc_decideU rfl (fun h118 => ?_) (fun h118 => ?_)
                    · skip
                      rw [if_pos (by omega)] at hG
                      have hz := hEe (by rw [← hG]; decide)
                      rw [← hG] at hz
                      rw [hz] at hR1
                      refine vc_seq ?_
                      refine vc_region ?_
                      refine vl_det (det_assign rfl) rfl ?_
                      refine vl_det (det_assign rfl) rfl ?_
                      refine vl_det (det_assign rfl) rfl ?_
                      refine vl_end [(4, _), (5, _), (6, _)] ⟨rfl, rfl, rfl, trivial⟩ ?_
                      refine then_next ?_
                      refine vc_ret ?_
                      refine then_ret ?_
                      refine in_ret ?_
                      refine then_ret ?_
                      refine loop_ret ?_
                      refine in_ret ?_
                      refine then_ret ?_
                      rw [hR1 (by decide)]
                      refine ret_nil_row 3 1 none ?_
                      refine ret_wk (L' := .own 3 1 none 0 0 [] :: F) (.cons (.skip (.skip (.skip (.skip (.skip (.skip (.refl _)))))))) ?_
                      refine ret3_ rfl rfl rfl rfl ?_
                      exact rd13_err rfl
                    · skip
                      rw [if_neg (by omega)] at hG
                      have hh2p : h2 ≤ h2 * p := Nat.le_mul_of_pos_right h2 hp0
                      have hel : O.length + 1 = (O ++ [id]).length := by simp
                      refine vc_skip ?_
                      refine then_next ?_
                      refine vc_region ?_
                      refine vl_det (det_move rfl) rfl ?_
                      refine vl_det (det_move rfl) rfl ?_
                      refine vl_push slT37 rfl rfl rfl rfl rfl (fun _ => rfl) (by repeat (first | exact .hd | apply Sel.tl)) (by omega) (by omega) ?_
                      intro _ A122 c122
                      refine vl_det (det_assign rfl) rfl ?_
                      refine vl_end [(0, _), (7, _), (8, _), (10, _), (11, _), (12, _), (16, _), (17, _), (18, _)] ⟨rfl, rfl, rfl, rfl, rfl, rfl, rfl, rfl, rfl, trivial⟩ ?_
                      refine in_normal ?_
                      refine then_next ?_
                      refine vc_region ?_
                      refine vl_det (det_move rfl) rfl ?_
                      refine vl_det (det_add rfl rfl (w_i64 (by omega) (by omega))) rfl ?_
                      refine vl_det (det_assign rfl) rfl ?_
                      refine vl_end [(0, _), (7, _), (8, _), (10, _), (11, _), (12, _), (16, _), (17, _), (18, _)] ⟨rfl, rfl, rfl, rfl, rfl, rfl, rfl, rfl, rfl, trivial⟩ ?_
                      refine in_loop_ ⟨_, by omega, i + 1, Z q pos + 1, h2, O ++ [id], A122, c122, ⟨by omega, by omega, by omega, by simp; omega, by rw [wasO_snoc]; exact hG⟩, rfl, ⟨(by first | rfl | exact int_to (by omega) | exact sl_to (by omega)), (by first | rfl | exact int_to (by omega) | exact sl_to (by omega)), (by first | rfl | exact int_to (by omega) | exact sl_to (by omega)), (by first | rfl | exact int_to (by omega) | exact sl_to (by omega)), (by first | rfl | exact int_to (by omega) | exact sl_to (by omega)), (by first | rfl | exact int_to (by omega) | exact sl_to (by omega)), (by first | rfl | exact int_to (by omega) | exact sl_to (by omega)), (by first | rfl | exact int_to (by omega) | exact sl_to (by omega)), (by first | rfl | exact int_to (by omega) | exact sl_to (by omega)), trivial⟩, .cons (.cons (wk_own hel (by simp [natv]) (.refl _)))⟩
            · skip
              obtain rfl : i = k := by omega
              rw [List.drop_of_length_le (by omega), rwF] at hG
              rw [← hG] at hEp hEo hRest
              simp only at hRest
              obtain ⟨rest, hrest⟩ : ∃ rest, rest = efRest bn i bb := ⟨_, rfl⟩
              rw [← hrest] at hRest hEp hEo
              have hrl : rest < 8 := by omega
              have hr8 : (pos + rest) % 8 = 0 := by omega
              have hrq : pos + rest ≤ q.length := by omega
              refine vc_exit ?_
              refine then_exit ?_
              refine loop_exit ?_
              refine in_eq ?_
              refine then_next ?_
              refine vc_seq ?_
              refine vc_block ?_
              refine vc_loopJ (fun zf zL zm => ∃ (z : Nat), (z ≤ rest ∧ part q pos z = 0) ∧ rest - z = zm ∧ Sub zf [(7, .pointer (some ⟨g29, 0, none⟩)), (11, .pointer (some ⟨g61, 0, none⟩)), (16, .slice A16 O.length c16)] ∧ Wk zL (Rf g61 A61 c61 q (pos + z) (.own 3 1 A16 O.length c16 (natv O) :: .own 3 1 A12 i c12 (natv (loR q w i)) :: Rv g29 A29 c29 (rdC bn b) :: .own 5 1 A29 b.length c29 (bv b) :: F))) _ ⟨0, ⟨Nat.zero_le _, rfl⟩, rfl, ⟨(by first | rfl | exact int_to (by omega) | exact sl_to (by omega)), (by first | rfl | exact int_to (by omega) | exact sl_to (by omega)), (by first | rfl | exact int_to (by omega) | exact sl_to (by omega)), trivial⟩, .refl _⟩ ?_
              rintro _ _ _ ⟨z, ⟨hzr, hz0⟩, rfl, hs, hp⟩
              refine vc_weaken _ hs (vc_wk hp ?_)
              clear hs hp
              have hrl2 := ref_length q
              have hble := bitn_le q (pos + z)
              have hps : part q pos (z + 1) = 2 * part q pos z + bitn q (pos + z) := rfl
              refine vc_seq ?_
              refine vc_seq ?_
              refine vc_region ?_
              refine vl_det (det_move rfl) rfl ?_
              refine vl_det (det_nilCheck rfl) rfl ?_
              refine vl_det (det_fieldAddr_ Try.underlying144 rfl (by kernel_rfl) rfl rfl) rfl ?_
              refine vl_det (det_load_blk (by kernel_rfl) rfl (by repeat (first | exact .hd | apply Sel.tl)) rfl) rfl ?_
              refine vl_det (det_rem rfl rfl (by omega) (r := (((pos + z) % 8 : Nat) : Int)) (Int.ofNat_tmod _ 8).symm) rfl ?_
              refine vl_det (det_neq rfl rfl) rfl ?_
              refine vl_end [(7, _), (11, _), (16, _), (128, _)] ⟨rfl, rfl, rfl, rfl, trivial⟩ ?_
              refine then_next ?_
              refine vc_decideU rfl (fun h128 => ?_) (fun h128 => ?_)
              · skip
                refine vc_skip ?_
                refine then_next ?_
                refine vc_block ?_
                refine vc_seq ?_
                refine vc_seq ?_
                refine vq_region (by kernel_rfl) (by kernel_rfl) ?_
                refine vq_det (det_move rfl) rfl ?_
                refine vq_det (det_nilCheck rfl) rfl ?_
                refine vq_det (det_fieldAddr_ Try.underlying144 rfl (by kernel_rfl) rfl rfl) rfl ?_
                refine vq_det (det_load_blk (by kernel_rfl) rfl (by repeat (first | exact .hd | apply Sel.tl)) rfl) rfl ?_
                refine vq_det (det_move rfl) rfl ?_
                refine vq_det (det_nilCheck rfl) rfl ?_
                refine vq_det (det_fieldAddr_ Try.underlying144 rfl (by kernel_rfl) rfl rfl) rfl ?_
                refine vq_det (det_load_blk (by kernel_rfl) rfl (by repeat (first | exact .hd | apply Sel.tl)) rfl) rfl ?_
                refine vq_det (det_indexAddr (i := pos + z) Try.underlying41 (by kernel_rfl) rfl rfl rfl (by omega) (by first | (exact Bor.own (by repeat (first | exact List.Mem.head _ | apply List.Mem.tail))) | (repeat (first | assumption | apply Bor.cons)))) rfl ?_
                refine vq_det (det_load_u8 (by kernel_rfl) rfl (by first | (exact Bor.own (by repeat (first | exact List.Mem.head _ | apply List.Mem.tail))) | (repeat (first | assumption | apply Bor.cons))) (by omega)) rfl ?_
                rw [ref_get _ (by omega)]
                refine vq_det (det_eql rfl rfl) rfl ?_
                refine vq_end [(7, _), (11, _), (16, _), (139, _)] ⟨rfl, rfl, rfl, rfl, trivial⟩ ?_
                refine then_next ?_
                refine vc_decideU rfl (fun h139 => ?_) (fun h139 => ?_)
                · skip
                  have hzp := hEp (by simp) (by
                    intro h0
                    have h1 := part_shift q pos (z + 1) (rest - (z + 1))
                    rw [show z + 1 + (rest - (z + 1)) = rest by omega, h0] at h1
                    simp at h1
                    omega)
                  rw [hzp] at hR1
                  refine vc_seq ?_
                  refine vc_region ?_
                  refine vl_det (det_assign rfl) rfl ?_
                  refine vl_det (det_assign rfl) rfl ?_
                  refine vl_det (det_assign rfl) rfl ?_
                  refine vl_end [(4, _), (5, _), (6, _)] ⟨rfl, rfl, rfl, trivial⟩ ?_
                  refine then_next ?_
                  refine vc_ret ?_
                  refine then_ret ?_
                  refine in_ret ?_
                  refine loop_ret ?_
                  refine in_ret ?_
                  refine then_ret ?_
                  rw [hR1 (by decide)]
                  refine ret_nil_row 3 1 none ?_
                  refine ret_wk (L' := .own 3 1 none 0 0 [] :: F) (.cons (.skip (.skip (.skip (.skip (.skip (.skip (.refl _)))))))) ?_
                  refine ret3_ rfl rfl rfl rfl ?_
                  exact rd13_err rfl
                · skip
                  refine vc_skip ?_
                  refine then_next ?_
                  refine vc_region ?_
                  refine vl_det (det_move rfl) rfl ?_
                  refine vl_det (det_nilCheck rfl) rfl ?_
                  refine vl_det (det_fieldAddr_ Try.underlying144 rfl (by kernel_rfl) rfl rfl) rfl ?_
                  refine vl_det (det_load_blk (by kernel_rfl) rfl (by repeat (first | exact .hd | apply Sel.tl)) rfl) rfl ?_
                  refine vl_det (det_add rfl rfl (w_i64 (by omega) (by omega))) rfl ?_
                  refine vl_det (det_nilCheck rfl) rfl ?_
                  refine vl_det (det_fieldAddr_ Try.underlying144 rfl (by kernel_rfl) rfl rfl) rfl ?_
                  refine vl_eff0 (eff_store (by kernel_rfl) rfl rfl rfl (by repeat (first | exact .hd | apply Sel.tl)) (by simp)) ?_
                  rintro _ _ rfl
                  refine vl_end [(7, _), (11, _), (16, _)] ⟨rfl, rfl, rfl, trivial⟩ ?_
                  refine in_normal ?_
                  refine in_loop_ ⟨_, by omega, z + 1, ⟨by omega, by omega⟩, rfl, ⟨(by first | rfl | exact int_to (by omega) | exact sl_to (by omega)), (by first | rfl | exact int_to (by omega) | exact sl_to (by omega)), (by first | rfl | exact int_to (by omega) | exact sl_to (by omega)), trivial⟩, wk_blk (rf_at _ (by omega)) (.refl _)⟩
              · skip
                obtain rfl : z = rest := by omega
                refine vc_exit ?_
                refine then_exit ?_
                refine loop_exit ?_
                refine in_eq ?_
                refine then_next ?_
                refine vc_seq ?_
                refine vq_region (by kernel_rfl) (by kernel_rfl) ?_
                refine vq_det (det_move rfl) rfl ?_
                refine vq_det (det_move rfl) rfl ?_
                refine vq_det (det_nilCheck rfl) rfl ?_
                refine vq_det (det_fieldAddr_ Try.underlying135 rfl (by kernel_rfl) rfl rfl) rfl ?_
                refine vq_det (det_load_blk (by kernel_rfl) rfl (by repeat (first | exact .hd | apply Sel.tl)) rfl) rfl ?_
                refine vq_det (det_move rfl) rfl ?_
                refine vq_det (det_nilCheck rfl) rfl ?_
                refine vq_det (det_fieldAddr_ Try.underlying144 rfl (by kernel_rfl) rfl rfl) rfl ?_
                refine vq_det (det_load_blk (by kernel_rfl) rfl (by repeat (first | exact .hd | apply Sel.tl)) rfl) rfl ?_
                refine vq_det (det_quo rfl rfl (by omega) (quo8 (by omega))) rfl ?_
                refine vq_det (det_add rfl rfl (r := ((d + (bb.length - (q.length - (pos + z)) / 8) : Nat) : Int)) ((w_i64 (by omega) (by omega)).trans (by rw [← hd]; omega))) rfl ?_
                refine vq_det (det_assign rfl) rfl ?_
                refine vq_det (det_assign rfl) rfl ?_
                refine vq_det (det_assign rfl) rfl ?_
                refine vq_end [(4, _), (5, _), (6, _)] ⟨rfl, rfl, rfl, trivial⟩ ?_
                refine then_next ?_
                refine vc_ret ?_
                have hzo := hEo (by simp) (by simpa using hz0)
                rw [hzo] at hR2
                rw [hR2 (by simp)]
                refine ret_wk (L' := .own 3 1 A16 O.length c16 (natv O) :: F) (.skip (.skip (.cons (.skip (.skip (.skip (.refl _))))))) ?_
                refine ret3_ rfl rfl rfl rfl ?_
                exact ⟨A16, c16, rfl, rfl⟩
end Go.Proofs.Ytpamjobiohbibaa
