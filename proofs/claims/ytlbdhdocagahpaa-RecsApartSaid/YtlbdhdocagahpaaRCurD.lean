/-
  The reference's cursor, by frames. Conditions: the cursor's bytes are shorter than 2^40.
-/
import Derived.Test.YtlbdhdocagahpaaCurE
import Derived.Test.YtlbdhdocagahpaaRScan
namespace Go.Proofs.Ytlbdhdocagahpaa
open Go.RowKit
set_option linter.unusedVariables false
set_option maxRecDepth 20000
variable {B : Nat} {w0 : World} {F L0 : List Ch} {A : Option Addr} {n c g : Nat} {s : Cs} {C0 : Ch}
/-- a cursor's block -/
abbrev Rv (g : Nat) (A : Option Addr) (c : Nat) (s : Cs) : Ch := .blk g 73 [.slice A s.b.length c, .int .i64 s.at_, .int .i64 s.e]
theorem rscan_d {l : List UInt8} (hb : Bor B w0 L0 1 (.slice A n c) n (bv l)) (hn : n ≤ 1099511627776) {at_ : Nat} (hat : at_ ≤ n) : Does Try.prog B w0 62 [.slice A n c, .int .i64 at_] L0 (fun r L => r = .tuple #[.int .u64 (scanS (l.drop at_)).1, .int .i64 (at_ + (scanS (l.drop at_)).2.1 : Nat), .int .i64 (scanS (l.drop at_)).2.2] ∧ L = L0) :=
  Does.of_same fun w hw => (rscan_c w (hb w hw) hn at_ hat).mono fun e w' ⟨h1, h2⟩ => ⟨h1, h2.symm⟩
theorem rleft_d (ho : CsOk s) : Does Try.prog B w0 40 [.pointer (some ⟨g, 0, none⟩)] (Rv g A c s :: F) (fun r L => r = .int .i64 s.left ∧ L = Rv g A c s :: F) := by
  have hat := ho.at_
  have hlen := ho.len
  have el : (s.left : Int) = (s.b.length : Int) - s.at_ := by unfold Cs.left; omega
  refine fn_walk Try.func40 13 rfl rfl rfl [(0, .pointer (some ⟨g, 0, none⟩))] ⟨⟨rfl, rfl⟩, trivial⟩ ?_
  refine vc_seq ?_
  refine vc_region ?_
  refine vl_det (det_assign rfl) rfl ?_
  refine vl_end [(0, _)] ⟨rfl, trivial⟩ ?_
  refine then_next ?_
  refine vc_seq ?_
  refine vq_region (by kernel_rfl) (by kernel_rfl) ?_
  refine vq_det (det_move rfl) rfl ?_
  refine vq_det (det_nilCheck rfl) rfl ?_
  refine vq_det (det_fieldAddr_ Try.underlying73 rfl (by kernel_rfl) rfl rfl) rfl ?_
  refine vq_det (det_load_blk (by kernel_rfl) rfl (by repeat (first | exact .hd | apply Sel.tl)) rfl) rfl ?_
  refine vq_det (det_len_sl Try.underlying32 rfl) rfl ?_
  refine vq_det (det_move rfl) rfl ?_
  refine vq_det (det_nilCheck rfl) rfl ?_
  refine vq_det (det_fieldAddr_ Try.underlying73 rfl (by kernel_rfl) rfl rfl) rfl ?_
  refine vq_det (det_load_blk (by kernel_rfl) rfl (by repeat (first | exact .hd | apply Sel.tl)) rfl) rfl ?_
  refine vq_det (det_sub rfl rfl (w_i64 (by omega) (by omega))) rfl ?_
  refine vq_det (det_assign rfl) rfl ?_
  refine vq_end [(2, _)] ⟨rfl, trivial⟩ ?_
  refine then_next ?_
  refine vc_ret ?_
  refine ret1 rfl rfl ?_
  exact ⟨by rw [el], rfl⟩
theorem Cs.moved_mk {s : Cs} (h : s.e = 0) {k : Nat} {e : Int} (hk : e ≠ 0 → k = 0) : s.moved k e = ⟨s.b, s.at_ + k, e⟩ := by
  unfold Cs.moved
  rw [if_neg (by simp [h])]
  split
  · rename_i he; rw [hk he]; rfl
  · rename_i he
    have : e = 0 := by simpa using he
    rw [this, ← h]
theorem Cs.num_mk {s : Cs} (h : s.e = 0) : s.num = (scanS s.rest).1 ∧ s.num' = ⟨s.b, s.at_ + (scanS s.rest).2.1, (scanS s.rest).2.2⟩ := ⟨by simp [Cs.num, h], Cs.moved_mk h fun he => (scanS_err he).2⟩
theorem Cs.int_mk {s : Cs} (h : s.e = 0) (m : Int) : s.int m = (limS s.rest m).1 ∧ s.int' m = ⟨s.b, s.at_ + (limS s.rest m).2.1, (limS s.rest m).2.2⟩ := ⟨by simp [Cs.int, h], Cs.moved_mk h fun he => (limS_err he).2⟩
theorem tex3_err {l : List UInt8} {x k : Nat} {er : Int} (h : (tex3 l x k er).2.2 ≠ 0) : (tex3 l x k er).1 = [] ∧ (tex3 l x k er).2.1 = 0 := by
  unfold tex3 at h ⊢
  split
  · exact ⟨rfl, rfl⟩
  · split
    · exact ⟨rfl, rfl⟩
    · rename_i h1 h2
      rw [if_neg h1, if_neg h2] at h
      exact absurd rfl h
theorem Cs.text_mk {s : Cs} (h : s.e = 0) (m : Int) : s.text m = (textS s.rest m).1 ∧ s.text' m = ⟨s.b, s.at_ + (textS s.rest m).2.1, (textS s.rest m).2.2⟩ := ⟨by simp [Cs.text, h], Cs.moved_mk h fun he => (tex3_err he).2⟩
theorem Cs.take_mk {s : Cs} (h : s.e = 0) (m : Int) : s.take m = takeT s.rest m ∧ s.take' m = ⟨s.b, s.at_ + takeK s.rest m, takeErr s.rest m⟩ := ⟨take_of h, by rw [take'_of]; exact Cs.moved_mk h fun he => by simp [takeK, he]⟩
theorem Cs.bad {s : Cs} (h : ¬ s.e = 0) : s.num = 0 ∧ s.num' = s ∧ (∀ m, s.int m = 0 ∧ s.int' m = s ∧ s.text m = [] ∧ s.text' m = s ∧ s.take m = [] ∧ s.take' m = s) := by
  refine ⟨by simp [Cs.num, h], by simp [Cs.num', Cs.moved, h], fun m => ⟨by simp [Cs.int, h], by simp [Cs.int', Cs.moved, h], by simp [Cs.text, h], by simp [Cs.text', Cs.moved, h], by simp [Cs.take, h], by simp [Cs.take', Cs.moved, h]⟩⟩
theorem rcnum_d (ho : CsOk s) (hb : Bor B w0 F 1 (.slice A s.b.length c) s.b.length (bv s.b)) :
    Does Try.prog B w0 41 [.pointer (some ⟨g, 0, none⟩)] (Rv g A c s :: F) (fun r L => r = .int .u64 s.num ∧ L = Rv g A c s.num' :: F) := by
  have hlen := ho.len
  have hat := ho.at_
  refine fn_walk Try.func41 33 rfl rfl rfl [(0, .pointer (some ⟨g, 0, none⟩))] ⟨⟨rfl, rfl⟩, trivial⟩ ?_
  refine vc_seq ?_
  refine vc_region ?_
  refine vl_det (det_assign rfl) rfl ?_
  refine vl_end [(0, _)] ⟨rfl, trivial⟩ ?_
  refine then_next ?_
  refine vc_seq ?_
  refine vc_seq ?_
  refine vc_region ?_
  refine vl_det (det_move rfl) rfl ?_
  refine vl_det (det_nilCheck rfl) rfl ?_
  refine vl_det (det_fieldAddr_ Try.underlying73 rfl (by kernel_rfl) rfl rfl) rfl ?_
  refine vl_det (det_load_blk (by kernel_rfl) rfl (by repeat (first | exact .hd | apply Sel.tl)) rfl) rfl ?_
  refine vl_det (det_neq rfl rfl) rfl ?_
  refine vl_end [(0, _), (10, _)] ⟨rfl, rfl, trivial⟩ ?_
  refine then_next ?_
  refine vc_decideU rfl (fun h10 => ?_) (fun h10 => ?_)
  · skip
    refine vc_seq ?_
    refine vc_region ?_
    refine vl_det (det_assign rfl) rfl ?_
    refine vl_end [(2, _)] ⟨rfl, trivial⟩ ?_
    refine then_next ?_
    refine vc_ret ?_
    refine then_ret ?_
    refine ret1 rfl rfl ?_
    rw [(Cs.bad h10).1, (Cs.bad h10).2.1]
    exact ⟨rfl, rfl⟩
  · skip
    refine vc_skip ?_
    refine then_next ?_
    refine vc_seq ?_
    refine vq_region (by kernel_rfl) (by kernel_rfl) ?_
    refine vq_det (det_move rfl) rfl ?_
    refine vq_det (det_nilCheck rfl) rfl ?_
    refine vq_det (det_fieldAddr_ Try.underlying73 rfl (by kernel_rfl) rfl rfl) rfl ?_
    refine vq_det (det_load_blk (by kernel_rfl) rfl (by repeat (first | exact .hd | apply Sel.tl)) rfl) rfl ?_
    refine vq_det (det_move rfl) rfl ?_
    refine vq_det (det_nilCheck rfl) rfl ?_
    refine vq_det (det_fieldAddr_ Try.underlying73 rfl (by kernel_rfl) rfl rfl) rfl ?_
    refine vq_det (det_load_blk (by kernel_rfl) rfl (by repeat (first | exact .hd | apply Sel.tl)) rfl) rfl ?_
    refine vq_call co62 rfl (rscan_d (at_ := s.at_) (by first | (exact Bor.own (by repeat (first | exact List.Mem.head _ | apply List.Mem.tail))) | (repeat (first | assumption | apply Bor.cons))) hlen hat) (by rintro _ _ ⟨rfl, rfl⟩; exact ⟨rfl, List.Sublist.refl _⟩) rfl ?_
    refine vq_det (det_move rfl) rfl ?_
    refine vq_det (det_extract rfl rfl) rfl ?_
    refine vq_det (det_extract rfl rfl) rfl ?_
    refine vq_det (det_extract rfl rfl) rfl ?_
    refine vq_det (det_assign rfl) rfl ?_
    refine vq_det (det_assign rfl) rfl ?_
    refine vq_det (det_assign rfl) rfl ?_
    refine vq_end [(0, _), (3, _), (4, _), (5, _)] ⟨rfl, rfl, rfl, rfl, trivial⟩ ?_
    refine then_next ?_
    refine vc_seq ?_
    refine vc_region ?_
    refine vl_det (det_move rfl) rfl ?_
    refine vl_det (det_move rfl) rfl ?_
    refine vl_det (det_nilCheck rfl) rfl ?_
    refine vl_det (det_fieldAddr_ Try.underlying73 rfl (by kernel_rfl) rfl rfl) rfl ?_
    refine vl_eff0 (eff_store (by kernel_rfl) rfl rfl rfl (by repeat (first | exact .hd | apply Sel.tl)) (by simp)) ?_
    rintro _ _ rfl
    refine vl_end [(0, _), (3, _), (5, _)] ⟨rfl, rfl, rfl, trivial⟩ ?_
    refine then_next ?_
    refine vc_seq ?_
    refine vc_region ?_
    refine vl_det (det_move rfl) rfl ?_
    refine vl_det (det_move rfl) rfl ?_
    refine vl_det (det_nilCheck rfl) rfl ?_
    refine vl_det (det_fieldAddr_ Try.underlying73 rfl (by kernel_rfl) rfl rfl) rfl ?_
    refine vl_eff0 (eff_store (by kernel_rfl) rfl rfl rfl (by repeat (first | exact .hd | apply Sel.tl)) (by simp)) ?_
    rintro _ _ rfl
    refine vl_end [(3, _)] ⟨rfl, trivial⟩ ?_
    refine then_next ?_
    refine vc_seq ?_
    refine vc_region ?_
    refine vl_det (det_move rfl) rfl ?_
    refine vl_det (det_assign rfl) rfl ?_
    refine vl_end [(2, _)] ⟨rfl, trivial⟩ ?_
    refine then_next ?_
    refine vc_ret ?_
    refine ret1 rfl rfl ?_
    have h0 : s.e = 0 := by omega
    rw [(Cs.num_mk h0).1, (Cs.num_mk h0).2]
    exact ⟨rfl, rfl⟩
theorem rcint_d (ho : CsOk s) (hb : Bor B w0 F 1 (.slice A s.b.length c) s.b.length (bv s.b)) {most : Int} (hm1 : -9223372036854775808 ≤ most) (hm2 : most ≤ 9223372036854775807) :
    Does Try.prog B w0 52 [.pointer (some ⟨g, 0, none⟩), .int .i64 most] (Rv g A c s :: F) (fun r L => r = .int .i64 (s.int most) ∧ L = Rv g A c (s.int' most) :: F) := by
  have hnum := rcnum_d (g := g) ho hb
  by_cases h0 : s.e = 0
  · have e : limS s.rest most = lim3 (scanS s.rest).1 (scanS s.rest).2.1 (scanS s.rest).2.2 most := rfl
    have hx := (scanS_facts s.rest).1
    have hk0 : (scanS s.rest).2.2 ≠ 0 → (scanS s.rest).2.1 = 0 := fun h => (scanS_err h).2
    rw [(Cs.num_mk h0).1, (Cs.num_mk h0).2] at hnum
    rw [(Cs.int_mk h0 most).1, (Cs.int_mk h0 most).2, e]
    clear e
    generalize (scanS s.rest).1 = x at *
    generalize (scanS s.rest).2.1 = k at *
    generalize (scanS s.rest).2.2 = er at *
    refine fn_walk Try.func52 35 rfl rfl rfl [(0, .pointer (some ⟨g, 0, none⟩)), (1, .int .i64 most)] ⟨⟨rfl, rfl⟩, ⟨rfl, rfl⟩, trivial⟩ ?_
    refine vc_seq ?_
    refine vc_region ?_
    refine vl_det (det_assign rfl) rfl ?_
    refine vl_end [(0, _), (1, _)] ⟨rfl, rfl, trivial⟩ ?_
    refine then_next ?_
    refine vc_seq ?_
    refine vc_region ?_
    refine vl_det (det_move rfl) rfl ?_
    refine vl_det (det_nilCheck rfl) rfl ?_
    refine vl_det (det_fieldAddr_ Try.underlying73 rfl (by kernel_rfl) rfl rfl) rfl ?_
    refine vl_det (det_load_blk (by kernel_rfl) rfl (by repeat (first | exact .hd | apply Sel.tl)) rfl) rfl ?_
    refine vl_det (det_assign rfl) rfl ?_
    refine vl_end [(0, _), (1, _), (5, _)] ⟨rfl, rfl, rfl, trivial⟩ ?_
    refine then_next ?_
    refine vc_seq ?_
    refine vc_region ?_
    refine vl_det (det_move rfl) rfl ?_
    refine vl_call co41 rfl (hnum) rfl ?_
    rintro _ _ ⟨rfl, hLL⟩
    obtain rfl := hLL.symm
    refine vl_det (det_assign rfl) rfl ?_
    refine vl_end [(0, _), (1, _), (5, _), (6, _)] ⟨rfl, rfl, rfl, rfl, trivial⟩ ?_
    refine then_next ?_
    refine vc_seq ?_
    refine vc_seq ?_
    refine vc_region ?_
    refine vl_det (det_move rfl) rfl ?_
    refine vl_det (det_nilCheck rfl) rfl ?_
    refine vl_det (det_fieldAddr_ Try.underlying73 rfl (by kernel_rfl) rfl rfl) rfl ?_
    refine vl_det (det_load_blk (by kernel_rfl) rfl (by repeat (first | exact .hd | apply Sel.tl)) rfl) rfl ?_
    refine vl_det (det_neq rfl rfl) rfl ?_
    refine vl_end [(0, _), (1, _), (5, _), (6, _), (17, _)] ⟨rfl, rfl, rfl, rfl, rfl, trivial⟩ ?_
    refine then_next ?_
    refine vc_decideU rfl (fun h17 => ?_) (fun h17 => ?_)
    · skip
      refine vc_seq ?_
      refine vc_region ?_
      refine vl_det (det_assign rfl) rfl ?_
      refine vl_end [(4, _)] ⟨rfl, trivial⟩ ?_
      refine then_next ?_
      refine vc_ret ?_
      refine then_ret ?_
      refine ret1 rfl rfl ?_
      have hk := hk0 h17
      subst hk
      rw [lim3_a h17]
      exact ⟨rfl, rfl⟩
    · skip
      refine vc_skip ?_
      refine then_next ?_
      refine vc_seq ?_
      refine vc_seq ?_
      refine vc_region ?_
      refine vl_cut 8 25 [(0, _), (5, _), (6, _)] (most < 0 ∨ most < (x : Int)) ⟨rfl, rfl, rfl, trivial⟩ ?_ ?_
      · skip
        refine vl_det (det_move rfl) rfl ?_
        refine vl_det (det_lss rfl rfl) rfl ?_
        refine vl_det (det_move rfl) rfl ?_
        refine vl_guardn rfl rfl rfl (fun h20 => ?_) (fun h20 => ?_)
        · skip
          refine vl_det (det_move rfl) rfl ?_
          refine vl_guard_t rfl rfl ?_
          refine vl_det (det_move rfl) rfl ?_
          refine vl_guard_t rfl rfl ?_
          refine vl_det (det_conv Try.underlying3 Try.underlying42 rfl (w_u64 (by omega) (by omega))) rfl ?_
          refine vl_guard_t rfl rfl ?_
          refine vl_det (det_gtr rfl rfl) rfl ?_
          refine vl_det (det_pick_f rfl rfl) rfl ?_
          exact vl_cut_end ⟨rfl, rfl, rfl, trivial⟩ (by first | rfl | exact bool_to_t (by first | omega | simp_all) | exact bool_to_f (by first | omega | simp_all) | exact bool_to (by first | omega | simp_all) | exact bool_to_b (by first | omega | simp_all))
        · skip
          refine vl_guard_f rfl rfl rfl rfl ?_
          refine vl_guard_f rfl rfl rfl rfl ?_
          refine vl_guard_f rfl rfl rfl rfl ?_
          refine vl_det (det_pick_t rfl rfl) rfl ?_
          exact vl_cut_end ⟨rfl, rfl, rfl, trivial⟩ (by first | rfl | exact bool_to_t (by first | omega | simp_all) | exact bool_to_f (by first | omega | simp_all) | exact bool_to (by first | omega | simp_all) | exact bool_to_b (by first | omega | simp_all))
      · skip
        refine vl_end [(0, _), (5, _), (6, _), (25, _)] ⟨rfl, rfl, rfl, rfl, trivial⟩ ?_
        refine then_next ?_
        refine vc_decideU rfl (fun h25 => ?_) (fun h25 => ?_)
        · skip
          refine vc_seq ?_
          refine vc_region ?_
          refine vl_det (det_move rfl) rfl ?_
          refine vl_det (det_move rfl) rfl ?_
          refine vl_det (det_nilCheck rfl) rfl ?_
          refine vl_det (det_fieldAddr_ Try.underlying73 rfl (by kernel_rfl) rfl rfl) rfl ?_
          refine vl_eff0 (eff_store (by kernel_rfl) rfl rfl rfl (by repeat (first | exact .hd | apply Sel.tl)) (by simp)) ?_
          rintro _ _ rfl
          refine vl_end [(0, _)] ⟨rfl, trivial⟩ ?_
          refine then_next ?_
          refine vc_seq ?_
          refine vc_region ?_
          refine vl_det (det_move rfl) rfl ?_
          refine vl_det (det_nilCheck rfl) rfl ?_
          refine vl_det (det_fieldAddr_ Try.underlying73 rfl (by kernel_rfl) rfl rfl) rfl ?_
          refine vl_eff0 (eff_store (by kernel_rfl) rfl rfl rfl (by repeat (first | exact .hd | apply Sel.tl)) (by simp)) ?_
          rintro _ _ rfl
          refine vl_end [] trivial ?_
          refine then_next ?_
          refine vc_seq ?_
          refine vc_region ?_
          refine vl_det (det_assign rfl) rfl ?_
          refine vl_end [(4, _)] ⟨rfl, trivial⟩ ?_
          refine then_next ?_
          refine vc_ret ?_
          refine then_ret ?_
          refine ret1 rfl rfl ?_
          rw [lim3_b h17 h25]
          exact ⟨rfl, rfl⟩
        · skip
          refine vc_skip ?_
          refine then_next ?_
          refine vc_seq ?_
          refine vc_region ?_
          refine vl_det (det_move rfl) rfl ?_
          refine vl_det (det_conv Try.underlying42 Try.underlying3 rfl (w_i64 (by omega) (by omega))) rfl ?_
          refine vl_det (det_assign rfl) rfl ?_
          refine vl_end [(4, _)] ⟨rfl, trivial⟩ ?_
          refine then_next ?_
          refine vc_ret ?_
          refine ret1 rfl rfl ?_
          have he : er = 0 := Classical.not_not.1 h17
          subst he
          rw [lim3_c h17 h25]
          exact ⟨rfl, rfl⟩
  · rw [(Cs.bad h0).1, (Cs.bad h0).2.1] at hnum
    rw [((Cs.bad h0).2.2 most).1, ((Cs.bad h0).2.2 most).2.1]
    refine fn_walk Try.func52 35 rfl rfl rfl [(0, .pointer (some ⟨g, 0, none⟩)), (1, .int .i64 most)] ⟨⟨rfl, rfl⟩, ⟨rfl, rfl⟩, trivial⟩ ?_
    refine vc_seq ?_
    refine vc_region ?_
    refine vl_det (det_assign rfl) rfl ?_
    refine vl_end [(0, _), (1, _)] ⟨rfl, rfl, trivial⟩ ?_
    refine then_next ?_
    refine vc_seq ?_
    refine vc_region ?_
    refine vl_det (det_move rfl) rfl ?_
    refine vl_det (det_nilCheck rfl) rfl ?_
    refine vl_det (det_fieldAddr_ Try.underlying73 rfl (by kernel_rfl) rfl rfl) rfl ?_
    refine vl_det (det_load_blk (by kernel_rfl) rfl (by repeat (first | exact .hd | apply Sel.tl)) rfl) rfl ?_
    refine vl_det (det_assign rfl) rfl ?_
    refine vl_end [(0, _), (1, _), (5, _)] ⟨rfl, rfl, rfl, trivial⟩ ?_
    refine then_next ?_
    refine vc_seq ?_
    refine vc_region ?_
    refine vl_det (det_move rfl) rfl ?_
    refine vl_call co41 rfl (hnum) rfl ?_
    rintro _ _ ⟨rfl, hLL⟩
    obtain rfl := hLL.symm
    refine vl_det (det_assign rfl) rfl ?_
    refine vl_end [(0, _), (1, _), (5, _), (6, _)] ⟨rfl, rfl, rfl, rfl, trivial⟩ ?_
    refine then_next ?_
    refine vc_seq ?_
    refine vc_seq ?_
    refine vc_region ?_
    refine vl_det (det_move rfl) rfl ?_
    refine vl_det (det_nilCheck rfl) rfl ?_
    refine vl_det (det_fieldAddr_ Try.underlying73 rfl (by kernel_rfl) rfl rfl) rfl ?_
    refine vl_det (det_load_blk (by kernel_rfl) rfl (by repeat (first | exact .hd | apply Sel.tl)) rfl) rfl ?_
    refine vl_det (det_neq rfl rfl) rfl ?_
    refine vl_end [(0, _), (1, _), (5, _), (6, _), (17, _)] ⟨rfl, rfl, rfl, rfl, rfl, trivial⟩ ?_
    refine then_next ?_
    refine vc_decideU rfl (fun h17 => ?_) (fun h17 => ?_)
    · skip
      refine vc_seq ?_
      refine vc_region ?_
      refine vl_det (det_assign rfl) rfl ?_
      refine vl_end [(4, _)] ⟨rfl, trivial⟩ ?_
      refine then_next ?_
      refine vc_ret ?_
      refine then_ret ?_
      refine ret1 rfl rfl ?_
      exact ⟨rfl, rfl⟩
    · skip
      exfalso; exact h17 h0
theorem rctake_d (ho : CsOk s) (hb : Bor B w0 F 1 (.slice A s.b.length c) s.b.length (bv s.b)) {m : Int} (hm1 : -9223372036854775808 ≤ m) (hm2 : m ≤ 9223372036854775807) :
    Does Try.prog B w0 63 [.pointer (some ⟨g, 0, none⟩), .int .i64 m] (Rv g A c s :: F) (fun r L => ∃ A' c', r = .slice A' (s.take m).length c' ∧ L = Rv g A c (s.take' m) :: .own 5 1 A' (s.take m).length c' (bv (s.take m)) :: F) := by
  refine Does.bor (L := Rv g A c s :: F) (Bor.cons hb) fun hc _ => ?_
  have hlen := ho.len
  have hat := ho.at_
  have hrl := ho.rest.1
  have el : (s.left : Int) = (s.b.length : Int) - s.at_ := by unfold Cs.left; omega
  refine fn_walk Try.func63 50 rfl rfl rfl [(0, .pointer (some ⟨g, 0, none⟩)), (1, .int .i64 m)] ⟨⟨rfl, rfl⟩, ⟨rfl, rfl⟩, trivial⟩ ?_
  refine vc_seq ?_
  refine vc_region ?_
  refine vl_det (det_assign rfl) rfl ?_
  refine vl_end [(0, _), (1, _)] ⟨rfl, rfl, trivial⟩ ?_
  refine then_next ?_
  refine vc_seq ?_
  refine vc_seq ?_
  refine vc_region ?_
  refine vl_det (det_move rfl) rfl ?_
  refine vl_det (det_nilCheck rfl) rfl ?_
  refine vl_det (det_fieldAddr_ Try.underlying73 rfl (by kernel_rfl) rfl rfl) rfl ?_
  refine vl_det (det_load_blk (by kernel_rfl) rfl (by repeat (first | exact .hd | apply Sel.tl)) rfl) rfl ?_
  refine vl_det (det_neq rfl rfl) rfl ?_
  refine vl_end [(0, _), (1, _), (10, _)] ⟨rfl, rfl, rfl, trivial⟩ ?_
  refine then_next ?_
  refine vc_decideU rfl (fun h10 => ?_) (fun h10 => ?_)
  · skip
    refine vc_seq ?_
    refine vc_region ?_
    refine vl_det (det_assign rfl) rfl ?_
    refine vl_end [(4, _)] ⟨rfl, trivial⟩ ?_
    refine then_next ?_
    refine vc_ret ?_
    refine then_ret ?_
    refine ret_nil_row 5 1 none ?_
    refine ret_wk (L' := Rv g A c s :: .own 5 1 none 0 0 [] :: F) (.swap (.refl _)) ?_
    refine ret1 rfl rfl ?_
    rw [((Cs.bad h10).2.2 m).2.2.2.2.1, ((Cs.bad h10).2.2 m).2.2.2.2.2]
    exact ⟨none, 0, rfl, rfl⟩
  · skip
    refine vc_skip ?_
    refine then_next ?_
    refine vc_seq ?_
    refine vc_seq ?_
    refine vc_region ?_
    refine vl_det (det_move rfl) rfl ?_
    refine vl_det (det_lss rfl rfl) rfl ?_
    refine vl_end [(0, _), (1, _), (12, _)] ⟨rfl, rfl, rfl, trivial⟩ ?_
    refine then_next ?_
    refine vc_decideU rfl (fun h12 => ?_) (fun h12 => ?_)
    · skip
      refine vc_seq ?_
      refine vc_region ?_
      refine vl_det (det_move rfl) rfl ?_
      refine vl_det (det_nilCheck rfl) rfl ?_
      refine vl_det (det_fieldAddr_ Try.underlying73 rfl (by kernel_rfl) rfl rfl) rfl ?_
      refine vl_eff0 (eff_store (by kernel_rfl) rfl rfl rfl (by repeat (first | exact .hd | apply Sel.tl)) (by simp)) ?_
      rintro _ _ rfl
      refine vl_end [] trivial ?_
      refine then_next ?_
      refine vc_seq ?_
      refine vc_region ?_
      refine vl_det (det_assign rfl) rfl ?_
      refine vl_end [(4, _)] ⟨rfl, trivial⟩ ?_
      refine then_next ?_
      refine vc_ret ?_
      refine then_ret ?_
      have h0 : s.e = 0 := by omega
      have e1 : takeErr s.rest m = 13 := if_pos h12
      have e2 : takeT s.rest m = [] := by simp [takeT, e1]
      have e3 : takeK s.rest m = 0 := by simp [takeK, e1]
      refine ret_nil_row 5 1 none ?_
      refine ret_wk (L' := Rv g A c ⟨s.b, s.at_ + 0, 13⟩ :: .own 5 1 none 0 0 [] :: F) (.swap (.refl _)) ?_
      refine ret1 rfl rfl ?_
      rw [(Cs.take_mk h0 m).1, (Cs.take_mk h0 m).2, e1, e2, e3]
      exact ⟨none, 0, rfl, rfl⟩
    · skip
      obtain ⟨q, rfl⟩ := Int.eq_ofNat_of_zero_le (show 0 ≤ m by omega)
      refine vc_skip ?_
      refine then_next ?_
      refine vc_seq ?_
      refine vc_seq ?_
      refine vc_region ?_
      refine vl_det (det_move rfl) rfl ?_
      refine vl_det (det_move rfl) rfl ?_
      refine vl_call co40 rfl (rleft_d ho) rfl ?_
      rintro _ _ ⟨rfl, hLL⟩
      obtain rfl := hLL.symm
      refine vl_det (det_gtr rfl rfl) rfl ?_
      refine vl_end [(0, _), (1, _), (19, _)] ⟨rfl, rfl, rfl, trivial⟩ ?_
      refine then_next ?_
      refine vc_decideU rfl (fun h19 => ?_) (fun h19 => ?_)
      · skip
        refine vc_seq ?_
        refine vc_region ?_
        refine vl_det (det_move rfl) rfl ?_
        refine vl_det (det_nilCheck rfl) rfl ?_
        refine vl_det (det_fieldAddr_ Try.underlying73 rfl (by kernel_rfl) rfl rfl) rfl ?_
        refine vl_eff0 (eff_store (by kernel_rfl) rfl rfl rfl (by repeat (first | exact .hd | apply Sel.tl)) (by simp)) ?_
        rintro _ _ rfl
        refine vl_end [] trivial ?_
        refine then_next ?_
        refine vc_seq ?_
        refine vc_region ?_
        refine vl_det (det_assign rfl) rfl ?_
        refine vl_end [(4, _)] ⟨rfl, trivial⟩ ?_
        refine then_next ?_
        refine vc_ret ?_
        refine then_ret ?_
        have h0 : s.e = 0 := by omega
        have e1 : takeErr s.rest q = 1 := by unfold takeErr; rw [if_neg h12, if_pos (by omega)]
        have e2 : takeT s.rest q = [] := by simp [takeT, e1]
        have e3 : takeK s.rest q = 0 := by simp [takeK, e1]
        refine ret_nil_row 5 1 none ?_
        refine ret_wk (L' := Rv g A c ⟨s.b, s.at_ + 0, 1⟩ :: .own 5 1 none 0 0 [] :: F) (.swap (.refl _)) ?_
        refine ret1 rfl rfl ?_
        rw [(Cs.take_mk h0 q).1, (Cs.take_mk h0 q).2, e1, e2, e3]
        exact ⟨none, 0, rfl, rfl⟩
      · skip
        have hbt := (hb.head_ (k := s.at_ + q) (by omega)).cut (k := s.at_) (by omega)
        have ebt : ((bv s.b).take ((s.at_ + q) * 1)).drop (s.at_ * 1) = bv (s.rest.take q) := by rw [Nat.mul_one, Nat.mul_one, bv_take, bv_drop, List.drop_take, Nat.add_sub_cancel_left]; rfl
        rw [ebt] at hbt
        refine vc_skip ?_
        refine then_next ?_
        refine vc_seq ?_
        refine vh_region (S := Rv g A c s :: F) (by kernel_rfl) (by repeat (first | exact List.Sublist.refl _ | exact List.nil_sublist _ | apply List.Sublist.cons_cons | apply List.Sublist.cons)) ?_
        refine vh_take 1 rfl (by kernel_rfl) (by kernel_rfl) (by kernel_rfl) (det_move rfl) rfl ?_
        refine vh_take 2 rfl (by kernel_rfl) (by kernel_rfl) (by kernel_rfl) (det_nilCheck rfl) rfl ?_
        refine vh_take 3 rfl (by kernel_rfl) (by kernel_rfl) (by kernel_rfl) (det_fieldAddr_ Try.underlying73 rfl (by kernel_rfl) rfl rfl) rfl ?_
        refine vh_take 4 rfl (by kernel_rfl) (by kernel_rfl) (by kernel_rfl) (det_load_blk (by kernel_rfl) rfl (by repeat (first | exact .hd | apply Sel.tl)) rfl) rfl ?_
        refine vh_take 5 rfl (by kernel_rfl) (by kernel_rfl) (by kernel_rfl) (det_move rfl) rfl ?_
        refine vh_take 6 rfl (by kernel_rfl) (by kernel_rfl) (by kernel_rfl) (det_nilCheck rfl) rfl ?_
        refine vh_take 7 rfl (by kernel_rfl) (by kernel_rfl) (by kernel_rfl) (det_fieldAddr_ Try.underlying73 rfl (by kernel_rfl) rfl rfl) rfl ?_
        refine vh_take 8 rfl (by kernel_rfl) (by kernel_rfl) (by kernel_rfl) (det_load_blk (by kernel_rfl) rfl (by repeat (first | exact .hd | apply Sel.tl)) rfl) rfl ?_
        refine vh_take 9 rfl (by kernel_rfl) (by kernel_rfl) (by kernel_rfl) (det_move rfl) rfl ?_
        refine vh_take 10 rfl (by kernel_rfl) (by kernel_rfl) (by kernel_rfl) (det_nilCheck rfl) rfl ?_
        refine vh_take 11 rfl (by kernel_rfl) (by kernel_rfl) (by kernel_rfl) (det_fieldAddr_ Try.underlying73 rfl (by kernel_rfl) rfl rfl) rfl ?_
        refine vh_take 12 rfl (by kernel_rfl) (by kernel_rfl) (by kernel_rfl) (det_load_blk (by kernel_rfl) rfl (by repeat (first | exact .hd | apply Sel.tl)) rfl) rfl ?_
        refine vh_take 13 rfl (by kernel_rfl) (by kernel_rfl) (by kernel_rfl) (det_move rfl) rfl ?_
        refine vh_take 14 rfl (by kernel_rfl) (by kernel_rfl) (by kernel_rfl) (det_add rfl rfl (w_i64 (by omega) (by omega))) rfl ?_
        refine vh_take 15 rfl (by kernel_rfl) (by kernel_rfl) (by kernel_rfl) (det_slice_both (i := s.at_) (j := s.at_ + q) (size := 1) Try.underlying32 (by kernel_rfl) rfl rfl rfl rfl rfl (by omega) (by omega)) rfl ?_
        refine vh_one 0 (by kernel_rfl) ?_
        refine st_eff rfl .no (eff_build_empty slT32) rfl (by rintro _ _ ⟨A23, rfl, rfl⟩; exact (by repeat (first | exact List.Sublist.refl _ | exact List.nil_sublist _ | apply List.Sublist.cons_cons | apply List.Sublist.cons))) ?_
        rintro _ _ ⟨A23, rfl, rfl⟩
        refine vh_one 16 (by kernel_rfl) ?_
        refine st_eff rfl .no (eff_app slT32 rfl (by repeat (first | exact .hd | apply Sel.tl)) rfl (by first | (exact Bor.own (by repeat (first | exact List.Mem.head _ | apply List.Mem.tail))) | (repeat (first | assumption | apply Bor.cons))) (by first | exact bv_one _ | exact strs_one _ | exact ints_one _ _ | (simp; done) | (simp [Value.oneCell']; done) | assumption) (by omega) (by omega)) rfl (by rintro _ _ ⟨A39, c39, rfl, rfl⟩; exact (by repeat (first | exact List.Sublist.refl _ | exact List.nil_sublist _ | apply List.Sublist.cons_cons | apply List.Sublist.cons))) ?_
        rintro _ _ ⟨A39, c39, rfl, rfl⟩
        refine vh_take 17 rfl (by kernel_rfl) (by kernel_rfl) (by kernel_rfl) (det_assign rfl) rfl ?_
        refine vh_done [(0, _), (1, _), (5, _)] ⟨rfl, rfl, rfl, trivial⟩ (by kernel_rfl) ?_
        refine then_next ?_
        refine vc_seq ?_
        refine vc_region ?_
        refine vl_det (det_move rfl) rfl ?_
        refine vl_det (det_move rfl) rfl ?_
        refine vl_det (det_nilCheck rfl) rfl ?_
        refine vl_det (det_fieldAddr_ Try.underlying73 rfl (by kernel_rfl) rfl rfl) rfl ?_
        refine vl_det (det_load_blk (by kernel_rfl) rfl (by repeat (first | exact .hd | apply Sel.tl)) rfl) rfl ?_
        refine vl_det (det_move rfl) rfl ?_
        refine vl_det (det_add rfl rfl (w_i64 (by omega) (by omega))) rfl ?_
        refine vl_det (det_nilCheck rfl) rfl ?_
        refine vl_det (det_fieldAddr_ Try.underlying73 rfl (by kernel_rfl) rfl rfl) rfl ?_
        refine vl_eff0 (eff_store (by kernel_rfl) rfl rfl rfl (by repeat (first | exact .hd | apply Sel.tl)) (by simp)) ?_
        rintro _ _ rfl
        refine vl_end [(5, _)] ⟨rfl, trivial⟩ ?_
        refine then_next ?_
        refine vc_seq ?_
        refine vc_region ?_
        refine vl_det (det_move rfl) rfl ?_
        refine vl_det (det_assign rfl) rfl ?_
        refine vl_end [(4, _)] ⟨rfl, trivial⟩ ?_
        refine then_next ?_
        refine vc_ret ?_
        have h0 : s.e = 0 := by omega
        have e1 : takeErr s.rest q = 0 := by unfold takeErr; rw [if_neg h12, if_neg (by omega)]
        have e2 : takeT s.rest q = s.rest.take q := by simp [takeT, e1]
        have e3 : takeK s.rest q = q := by simp [takeK, e1]
        have e4 : (s.rest.take q).length = q := by rw [List.length_take]; omega
        refine ret_wk (L' := Rv g A c ⟨s.b, s.at_ + q, 0⟩ :: .own 5 1 A39 (s.rest.take q).length c39 (bv (s.rest.take q)) :: F) (by rw [h0, e4]; exact .swap (.cons (wk_own (by omega) (by simp) (.refl _)))) ?_
        refine ret1 rfl rfl ?_
        rw [(Cs.take_mk h0 q).1, (Cs.take_mk h0 q).2, e1, e2, e3]
        exact ⟨A39, c39, by rw [e4]; simp, rfl⟩
theorem rcbyte_d (ho : CsOk s) (hb : Bor B w0 F 1 (.slice A s.b.length c) s.b.length (bv s.b)) :
    Does Try.prog B w0 42 [.pointer (some ⟨g, 0, none⟩)] (Rv g A c s :: F) (fun r L => r = .int .u8 (s.byte.toNat : Int) ∧ L = Rv g A c s.byte' :: F) := by
  have h1 := take1_len s
  have eb : s.byte = ((s.take 1).head?).getD 0 := rfl
  have eb' : s.byte' = s.take' 1 := rfl
  rw [eb, eb']
  refine fn_walk Try.func42 12 rfl rfl rfl [(0, .pointer (some ⟨g, 0, none⟩))] ⟨⟨rfl, rfl⟩, trivial⟩ ?_
  refine vc_seq ?_
  refine vc_region ?_
  refine vl_det (det_assign rfl) rfl ?_
  refine vl_end [(0, _)] ⟨rfl, trivial⟩ ?_
  refine then_next ?_
  refine vc_seq ?_
  refine vc_region ?_
  refine vl_det (det_move rfl) rfl ?_
  refine vl_call co63 rfl (rctake_d ho hb (m := 1) (by omega) (by omega)) rfl ?_
  rintro _ _ ⟨A5, c5, rfl, hLL⟩
  obtain rfl := hLL.symm
  refine vl_det (det_assign rfl) rfl ?_
  refine vl_end [(3, _)] ⟨rfl, trivial⟩ ?_
  refine then_next ?_
  refine vc_seq ?_
  refine vc_seq ?_
  refine vc_region ?_
  refine vl_det (det_move rfl) rfl ?_
  refine vl_det (det_len_sl Try.underlying32 rfl) rfl ?_
  refine vl_det (det_lss rfl rfl) rfl ?_
  refine vl_end [(3, _), (8, _)] ⟨rfl, rfl, trivial⟩ ?_
  refine then_next ?_
  refine vc_decideU rfl (fun h8 => ?_) (fun h8 => ?_)
  · skip
    refine vc_seq ?_
    refine vc_region ?_
    refine vl_det (det_assign rfl) rfl ?_
    refine vl_end [(2, _)] ⟨rfl, trivial⟩ ?_
    refine then_next ?_
    refine vc_ret ?_
    refine then_ret ?_
    refine ret_wk (L' := Rv g A c (s.take' 1) :: F) (.cons (.skip (.refl _))) ?_
    refine ret1 rfl rfl ?_
    have e0 : s.take 1 = [] := List.eq_nil_of_length_eq_zero (by omega)
    exact ⟨by rw [e0]; rfl, rfl⟩
  · skip
    refine vc_skip ?_
    refine then_next ?_
    refine vc_seq ?_
    refine vc_region ?_
    refine vl_det (det_move rfl) rfl ?_
    refine vl_det (det_indexAddr (i := 0) (size := 1) Try.underlying32 (by kernel_rfl) rfl rfl rfl (by omega) (by first | (exact Bor.own (by repeat (first | exact List.Mem.head _ | apply List.Mem.tail))) | (repeat (first | assumption | apply Bor.cons)))) rfl ?_
    refine vl_det (det_load_u8 (by kernel_rfl) rfl (by first | (exact Bor.own (by repeat (first | exact List.Mem.head _ | apply List.Mem.tail))) | (repeat (first | assumption | apply Bor.cons))) (by omega)) rfl ?_
    refine vl_det (det_assign rfl) rfl ?_
    refine vl_end [(2, _)] ⟨rfl, trivial⟩ ?_
    refine then_next ?_
    refine vc_ret ?_
    refine ret_wk (L' := Rv g A c (s.take' 1) :: F) (.cons (.skip (.refl _))) ?_
    refine ret1 rfl rfl ?_
    exact ⟨by simp [List.getD, List.head?_eq_getElem?], rfl⟩
theorem rctext_d (ho : CsOk s) (hb : Bor B w0 F 1 (.slice A s.b.length c) s.b.length (bv s.b)) {most : Int} (hm1 : -9223372036854775808 ≤ most) (hm2 : most ≤ 9223372036854775807) :
    Does Try.prog B w0 43 [.pointer (some ⟨g, 0, none⟩), .int .i64 most] (Rv g A c s :: F) (fun r L => r = .string ⟨(s.text most).toArray⟩ ∧ L = Rv g A c (s.text' most) :: F) := by
  have hint := rcint_d (g := g) ho hb hm1 hm2
  by_cases h0 : s.e = 0
  · have e : textS s.rest most = tex3 s.rest (limS s.rest most).1 (limS s.rest most).2.1 (limS s.rest most).2.2 := rfl
    have hf := limS_facts s.rest most hm2
    have hk0 : (limS s.rest most).2.2 ≠ 0 → (limS s.rest most).2.1 = 0 := fun h => (limS_err h).2
    rw [(Cs.int_mk h0 most).1, (Cs.int_mk h0 most).2] at hint
    rw [(Cs.text_mk h0 most).1, (Cs.text_mk h0 most).2, e]
    clear e
    generalize (limS s.rest most).1 = x at *
    generalize (limS s.rest most).2.1 = k at *
    generalize (limS s.rest most).2.2 = er at *
    have hlen := ho.len
    have hat := ho.at_
    have hrl := ho.rest.1
    have hsl : s.left = s.b.length - s.at_ := rfl
    have ho2 : CsOk ⟨s.b, s.at_ + k, er⟩ := ⟨by simp only; omega, hlen⟩
    have hl2 : Cs.left ⟨s.b, s.at_ + k, er⟩ = s.rest.length - k := by unfold Cs.left; simp only; omega
    have hr2 : Cs.rest ⟨s.b, s.at_ + k, er⟩ = s.rest.drop k := by simp [Cs.rest, List.drop_drop]
    refine fn_walk Try.func43 34 rfl rfl rfl [(0, .pointer (some ⟨g, 0, none⟩)), (1, .int .i64 most)] ⟨⟨rfl, rfl⟩, ⟨rfl, rfl⟩, trivial⟩ ?_
    refine vc_seq ?_
    refine vc_region ?_
    refine vl_det (det_assign rfl) rfl ?_
    refine vl_end [(0, _), (1, _)] ⟨rfl, rfl, trivial⟩ ?_
    refine then_next ?_
    refine vc_seq ?_
    refine vc_region ?_
    refine vl_det (det_move rfl) rfl ?_
    refine vl_det (det_nilCheck rfl) rfl ?_
    refine vl_det (det_fieldAddr_ Try.underlying73 rfl (by kernel_rfl) rfl rfl) rfl ?_
    refine vl_det (det_load_blk (by kernel_rfl) rfl (by repeat (first | exact .hd | apply Sel.tl)) rfl) rfl ?_
    refine vl_det (det_assign rfl) rfl ?_
    refine vl_end [(0, _), (1, _), (5, _)] ⟨rfl, rfl, rfl, trivial⟩ ?_
    refine then_next ?_
    refine vc_seq ?_
    refine vc_region ?_
    refine vl_det (det_move rfl) rfl ?_
    refine vl_det (det_move rfl) rfl ?_
    refine vl_call co52 rfl (hint) rfl ?_
    rintro _ _ ⟨rfl, hLL⟩
    obtain rfl := hLL.symm
    refine vl_det (det_assign rfl) rfl ?_
    refine vl_end [(0, _), (5, _), (6, _)] ⟨rfl, rfl, rfl, trivial⟩ ?_
    refine then_next ?_
    refine vc_seq ?_
    refine vc_seq ?_
    refine vc_region ?_
    refine vl_det (det_move rfl) rfl ?_
    refine vl_det (det_nilCheck rfl) rfl ?_
    refine vl_det (det_fieldAddr_ Try.underlying73 rfl (by kernel_rfl) rfl rfl) rfl ?_
    refine vl_det (det_load_blk (by kernel_rfl) rfl (by repeat (first | exact .hd | apply Sel.tl)) rfl) rfl ?_
    refine vl_det (det_neq rfl rfl) rfl ?_
    refine vl_end [(0, _), (5, _), (6, _), (18, _)] ⟨rfl, rfl, rfl, rfl, trivial⟩ ?_
    refine then_next ?_
    refine vc_decideU rfl (fun h18 => ?_) (fun h18 => ?_)
    · skip
      refine vc_seq ?_
      refine vc_region ?_
      refine vl_det (det_assign rfl) rfl ?_
      refine vl_end [(4, _)] ⟨rfl, trivial⟩ ?_
      refine then_next ?_
      refine vc_ret ?_
      refine then_ret ?_
      refine ret1 rfl rfl ?_
      have hk := hk0 h18
      subst hk
      rw [tex3_a h18]
      exact ⟨rfl, rfl⟩
    · skip
      refine vc_skip ?_
      refine then_next ?_
      refine vc_seq ?_
      refine vc_seq ?_
      refine vc_region ?_
      refine vl_det (det_move rfl) rfl ?_
      refine vl_det (det_move rfl) rfl ?_
      refine vl_call co40 rfl (rleft_d ho2) rfl ?_
      rintro _ _ ⟨rfl, hLL⟩
      obtain rfl := hLL.symm
      refine vl_det (det_gtr rfl rfl) rfl ?_
      refine vl_end [(0, _), (5, _), (6, _), (22, _)] ⟨rfl, rfl, rfl, rfl, trivial⟩ ?_
      refine then_next ?_
      refine vc_decideU rfl (fun h22 => ?_) (fun h22 => ?_)
      · skip
        refine vc_seq ?_
        refine vc_region ?_
        refine vl_det (det_move rfl) rfl ?_
        refine vl_det (det_move rfl) rfl ?_
        refine vl_det (det_nilCheck rfl) rfl ?_
        refine vl_det (det_fieldAddr_ Try.underlying73 rfl (by kernel_rfl) rfl rfl) rfl ?_
        refine vl_eff0 (eff_store (by kernel_rfl) rfl rfl rfl (by repeat (first | exact .hd | apply Sel.tl)) (by simp)) ?_
        rintro _ _ rfl
        refine vl_end [(0, _)] ⟨rfl, trivial⟩ ?_
        refine then_next ?_
        refine vc_seq ?_
        refine vc_region ?_
        refine vl_det (det_move rfl) rfl ?_
        refine vl_det (det_nilCheck rfl) rfl ?_
        refine vl_det (det_fieldAddr_ Try.underlying73 rfl (by kernel_rfl) rfl rfl) rfl ?_
        refine vl_eff0 (eff_store (by kernel_rfl) rfl rfl rfl (by repeat (first | exact .hd | apply Sel.tl)) (by simp)) ?_
        rintro _ _ rfl
        refine vl_end [] trivial ?_
        refine then_next ?_
        refine vc_seq ?_
        refine vc_region ?_
        refine vl_det (det_assign rfl) rfl ?_
        refine vl_end [(4, _)] ⟨rfl, trivial⟩ ?_
        refine then_next ?_
        refine vc_ret ?_
        refine then_ret ?_
        refine ret1 rfl rfl ?_
        rw [tex3_b h18 (by omega)]
        exact ⟨rfl, rfl⟩
      · skip
        refine vc_skip ?_
        refine then_next ?_
        refine vc_seq ?_
        refine vc_region ?_
        refine vl_det (det_move rfl) rfl ?_
        refine vl_det (det_move rfl) rfl ?_
        refine vl_call co63 rfl (rctake_d ho2 hb (m := (x : Int)) (by omega) (by omega)) rfl ?_
        rintro _ _ ⟨A32, c32, rfl, hLL⟩
        obtain rfl := hLL.symm
        refine vl_det (det_bstr Try.underlying32 Try.underlying5 Try.underlying9 rfl (by first | (exact Bor.own (by repeat (first | exact List.Mem.head _ | apply List.Mem.tail))) | (repeat (first | assumption | apply Bor.cons)))) rfl ?_
        refine vl_det (det_assign rfl) rfl ?_
        refine vl_end [(4, _)] ⟨rfl, trivial⟩ ?_
        refine then_next ?_
        refine vc_ret ?_
        have he0 : er = 0 := Classical.not_not.1 h18
        subst he0
        have e1 : takeErr (s.rest.drop k) x = 0 := by unfold takeErr; rw [if_neg (by omega), if_neg (by rw [List.length_drop]; omega)]
        have e2 : Cs.take ⟨s.b, s.at_ + k, 0⟩ x = (s.rest.drop k).take x := by rw [(Cs.take_mk rfl _).1, hr2]; simp [takeT, e1]
        have e3 : Cs.take' ⟨s.b, s.at_ + k, 0⟩ x = ⟨s.b, s.at_ + (k + x), 0⟩ := by rw [(Cs.take_mk rfl _).2, hr2, e1]; simp [takeK, e1, Nat.add_assoc]
        rw [e2, e3]
        refine ret_wk (L' := Rv g A c ⟨s.b, s.at_ + (k + x), 0⟩ :: F) (.cons (.skip (.refl _))) ?_
        refine ret1 rfl rfl ?_
        rw [tex3_c h18 (by omega)]
        exact ⟨rfl, rfl⟩
  · rw [((Cs.bad h0).2.2 most).1, ((Cs.bad h0).2.2 most).2.1] at hint
    rw [((Cs.bad h0).2.2 most).2.2.1, ((Cs.bad h0).2.2 most).2.2.2.1]
    refine fn_walk Try.func43 34 rfl rfl rfl [(0, .pointer (some ⟨g, 0, none⟩)), (1, .int .i64 most)] ⟨⟨rfl, rfl⟩, ⟨rfl, rfl⟩, trivial⟩ ?_
    refine vc_seq ?_
    refine vc_region ?_
    refine vl_det (det_assign rfl) rfl ?_
    refine vl_end [(0, _), (1, _)] ⟨rfl, rfl, trivial⟩ ?_
    refine then_next ?_
    refine vc_seq ?_
    refine vc_region ?_
    refine vl_det (det_move rfl) rfl ?_
    refine vl_det (det_nilCheck rfl) rfl ?_
    refine vl_det (det_fieldAddr_ Try.underlying73 rfl (by kernel_rfl) rfl rfl) rfl ?_
    refine vl_det (det_load_blk (by kernel_rfl) rfl (by repeat (first | exact .hd | apply Sel.tl)) rfl) rfl ?_
    refine vl_det (det_assign rfl) rfl ?_
    refine vl_end [(0, _), (1, _), (5, _)] ⟨rfl, rfl, rfl, trivial⟩ ?_
    refine then_next ?_
    refine vc_seq ?_
    refine vc_region ?_
    refine vl_det (det_move rfl) rfl ?_
    refine vl_det (det_move rfl) rfl ?_
    refine vl_call co52 rfl (hint) rfl ?_
    rintro _ _ ⟨rfl, hLL⟩
    obtain rfl := hLL.symm
    refine vl_det (det_assign rfl) rfl ?_
    refine vl_end [(0, _), (5, _), (6, _)] ⟨rfl, rfl, rfl, trivial⟩ ?_
    refine then_next ?_
    refine vc_seq ?_
    refine vc_seq ?_
    refine vc_region ?_
    refine vl_det (det_move rfl) rfl ?_
    refine vl_det (det_nilCheck rfl) rfl ?_
    refine vl_det (det_fieldAddr_ Try.underlying73 rfl (by kernel_rfl) rfl rfl) rfl ?_
    refine vl_det (det_load_blk (by kernel_rfl) rfl (by repeat (first | exact .hd | apply Sel.tl)) rfl) rfl ?_
    refine vl_det (det_neq rfl rfl) rfl ?_
    refine vl_end [(0, _), (5, _), (6, _), (18, _)] ⟨rfl, rfl, rfl, rfl, trivial⟩ ?_
    refine then_next ?_
    refine vc_decideU rfl (fun h18 => ?_) (fun h18 => ?_)
    · skip
      refine vc_seq ?_
      refine vc_region ?_
      refine vl_det (det_assign rfl) rfl ?_
      refine vl_end [(4, _)] ⟨rfl, trivial⟩ ?_
      refine then_next ?_
      refine vc_ret ?_
      refine then_ret ?_
      refine ret1 rfl rfl ?_
      exact ⟨rfl, rfl⟩
    · skip
      exfalso; exact h18 h0
theorem rcnew_d {l : List UInt8} (hb : Bor B w0 F 1 (.slice A l.length c) l.length (bv l)) (hl : l.length ≤ 1099511627776) :
    Does Try.prog B w0 39 [.slice A l.length c] F (fun r L => ∃ g A' c', r = .pointer (some ⟨g, 0, none⟩) ∧ L = Rv g A' c' ⟨l, 0, 0⟩ :: .own 5 1 A' l.length c' (bv l) :: F) := by
  refine fn_walk Try.func39 8 rfl rfl rfl [(0, .slice A l.length c)] ⟨⟨rfl, rfl⟩, trivial⟩ ?_
  refine vc_seq ?_
  refine vc_region ?_
  refine vl_det (det_assign rfl) rfl ?_
  refine vl_end [(0, _)] ⟨rfl, trivial⟩ ?_
  refine then_next ?_
  refine vc_seq ?_
  refine vc_region ?_
  refine vl_eff (eff_build_empty slT32) rfl ?_
  rintro _ _ ⟨A3, rfl, rfl⟩
  refine vl_det (det_move rfl) rfl ?_
  refine vl_eff (eff_app slT32 rfl (by repeat (first | exact .hd | apply Sel.tl)) rfl (by first | (exact Bor.own (by repeat (first | exact List.Mem.head _ | apply List.Mem.tail))) | (repeat (first | assumption | apply Bor.cons))) (by first | exact bv_one _ | exact strs_one _ | exact ints_one _ _ | (simp; done) | (simp [Value.oneCell']; done) | assumption) (by omega) (by omega)) rfl ?_
  rintro _ _ ⟨A5, c5, rfl, rfl⟩
  refine vl_det (det_buildp [(0, _)] [.slice none 0 0, .int .i64 0, .int .i64 0] [0] [_, _, _] rfl rfl (by kernel_rfl)) rfl ?_
  refine vl_eff (eff_box rfl rfl) rfl ?_
  rintro _ _ ⟨g7, rfl, rfl⟩
  refine vl_det (det_assign rfl) rfl ?_
  refine vl_end [(2, _)] ⟨rfl, trivial⟩ ?_
  refine then_next ?_
  refine vc_ret ?_
  refine ret_wk (L' := Rv g7 A5 c5 ⟨l, 0, 0⟩ :: .own 5 1 A5 l.length c5 (bv l) :: F) ?_ ?_
  · rw [Nat.zero_add, List.nil_append]; exact .refl _
  refine ret1 rfl rfl ?_
  exact ⟨g7, A5, c5, rfl, rfl⟩
end Go.Proofs.Ytlbdhdocagahpaa
