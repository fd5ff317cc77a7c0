/-
  recs.Read and the document's Read, by frames. Conditions: at most 10^9 bytes.
-/
import Derived.Test.YtlbdhdocagahpaaRecP
namespace Go.Proofs.Ytlbdhdocagahpaa
open Go.RowKit
set_option linter.unusedVariables false
set_option maxRecDepth 20000
variable {B : Nat} {w0 : World} {F : List Ch} {A : Option Addr} {n c g : Nat} {s : Cs}
theorem record_d (b : Bool) (ho : CsOk s) (hb : Bor B w0 F 1 (.slice A s.b.length c) s.b.length (bv s.b)) :
    Does Try.prog B w0 37 [.agg #[.pointer (some ⟨g, 0, none⟩)], .bool b] (Cv g A c s :: F) (fun r L => r = .agg (RecC.cells (rstep b s).1).toArray ∧ L = Cv g A c (rstep b s).2 :: F) := by
  have hb1 : ∀ (s' : Cs), s'.b = s.b → Bor B w0 F 1 (.slice A s'.b.length c) s'.b.length (bv s'.b) := fun s' h => by rw [h]; exact hb
  refine fn_walk Try.func37 23 rfl rfl rfl [(0, .agg #[.pointer (some ⟨g, 0, none⟩)]), (1, .bool b)] ⟨⟨rfl, rfl⟩, ⟨rfl, rfl⟩, trivial⟩ ?_
  refine vc_seq ?_
  refine vc_region ?_
  refine vl_eff (eff_box rfl rfl) rfl ?_
  rintro _ _ ⟨g2, rfl, rfl⟩
  refine vl_eff (eff_alloc_z (zv := (.agg #[.int .u64 0, .int .u8 0, .string ⟨#[]⟩, .string ⟨#[]⟩])) (by kernel_rfl) rfl) rfl ?_
  rintro _ _ ⟨g4, rfl, rfl⟩
  refine vl_end [(1, _), (2, _), (4, _)] ⟨rfl, rfl, rfl, trivial⟩ ?_
  refine then_next ?_
  refine vc_seqJ (fun zf zL => Sub zf [(2, .pointer (some ⟨g2, 0, none⟩)), (4, .pointer (some ⟨g4, 0, none⟩))] ∧ Wk zL (Cv g A c (st1 b s) :: .blk g4 44 [.int .u64 (if b = true then s.num else 0 : Nat), .int .u8 ((if b = true then s.num'.byte else 0 : UInt8).toNat : Int), .string ⟨#[]⟩, .string ⟨#[]⟩] :: .blk g2 63 [.pointer (some ⟨g, 0, none⟩)] :: F)) ?_ ?_
  · skip
    refine vc_seq ?_
    refine vc_region ?_
    refine vl_det (det_move rfl) rfl ?_
    refine vl_end [(2, _), (4, _), (5, _)] ⟨rfl, rfl, rfl, trivial⟩ ?_
    refine then_next ?_
    refine vc_condU rfl (fun h5 => ?_) (fun h5 => ?_)
    · skip
      subst h5
      refine vc_seq ?_
      refine vc_region ?_
      refine vl_det (det_fieldAddr_ Try.underlying63 rfl (by kernel_rfl) rfl rfl) rfl ?_
      refine vl_det (det_load_blk (by kernel_rfl) rfl (by repeat (first | exact .hd | apply Sel.tl)) rfl) rfl ?_
      refine vl_call co59 rfl ((cnum_d ho (.cons (.cons hb))).perm swp3) rfl ?_
      rintro _ _ ⟨rfl, hLL⟩
      obtain rfl := hLL.symm
      refine vl_det (det_fieldAddr_ Try.underlying44 rfl (by kernel_rfl) rfl rfl) rfl ?_
      refine vl_eff0 (eff_store (by kernel_rfl) rfl rfl rfl (by repeat (first | exact .hd | apply Sel.tl)) (by simp)) ?_
      rintro _ _ rfl
      refine vl_end [(2, _), (4, _)] ⟨rfl, rfl, trivial⟩ ?_
      refine then_next ?_
      refine vc_region ?_
      refine vl_det (det_fieldAddr_ Try.underlying63 rfl (by kernel_rfl) rfl rfl) rfl ?_
      refine vl_det (det_load_blk (by kernel_rfl) rfl (by repeat (first | exact .hd | apply Sel.tl)) rfl) rfl ?_
      refine vl_call co60 rfl (cbyte_d ho.num' (.cons (.cons (hb1 _ (num'_b s))))) rfl ?_
      rintro _ _ ⟨rfl, hLL⟩
      obtain rfl := hLL.symm
      refine vl_det (det_fieldAddr_ Try.underlying44 rfl (by kernel_rfl) rfl rfl) rfl ?_
      refine vl_eff0 (eff_store (by kernel_rfl) rfl rfl rfl (by repeat (first | exact .hd | apply Sel.tl)) (by simp)) ?_
      rintro _ _ rfl
      refine vl_end [(2, _), (4, _)] ⟨rfl, rfl, trivial⟩ ?_
      exact in_join ⟨⟨(by first | rfl | exact int_to (by omega) | exact sl_to (by omega)), (by first | rfl | exact int_to (by omega) | exact sl_to (by omega)), trivial⟩, .refl _⟩
    · skip
      subst h5
      refine vc_skip ?_
      exact in_join ⟨⟨(by first | rfl | exact int_to (by omega) | exact sl_to (by omega)), (by first | rfl | exact int_to (by omega) | exact sl_to (by omega)), trivial⟩, .of_perm swp3⟩
  · rintro _ _ ⟨hs, hp⟩
    refine vc_weaken _ hs (vc_wk hp ?_)
    clear hs hp
    refine vc_seq ?_
    refine vc_region ?_
    refine vl_det (det_fieldAddr_ Try.underlying63 rfl (by kernel_rfl) rfl rfl) rfl ?_
    refine vl_det (det_load_blk (by kernel_rfl) rfl (by repeat (first | exact .hd | apply Sel.tl)) rfl) rfl ?_
    refine vl_call co61 rfl (ctext_d ho.st1 (.cons (.cons (hb1 _ (st1_b b s)))) (by omega) (by omega)) rfl ?_
    rintro _ _ ⟨rfl, hLL⟩
    obtain rfl := hLL.symm
    refine vl_det (det_fieldAddr_ Try.underlying44 rfl (by kernel_rfl) rfl rfl) rfl ?_
    refine vl_eff0 (eff_store (by kernel_rfl) rfl rfl rfl (by repeat (first | exact .hd | apply Sel.tl)) (by simp)) ?_
    rintro _ _ rfl
    refine vl_end [(2, _), (4, _)] ⟨rfl, rfl, trivial⟩ ?_
    refine then_next ?_
    refine vc_seq ?_
    refine vc_region ?_
    refine vl_det (det_fieldAddr_ Try.underlying63 rfl (by kernel_rfl) rfl rfl) rfl ?_
    refine vl_det (det_load_blk (by kernel_rfl) rfl (by repeat (first | exact .hd | apply Sel.tl)) rfl) rfl ?_
    refine vl_call co61 rfl (ctext_d ho.st1.text' (.cons (.cons (hb1 _ ((text'_b _ _).trans (st1_b b s))))) (by omega) (by omega)) rfl ?_
    rintro _ _ ⟨rfl, hLL⟩
    obtain rfl := hLL.symm
    refine vl_det (det_fieldAddr_ Try.underlying44 rfl (by kernel_rfl) rfl rfl) rfl ?_
    refine vl_eff0 (eff_store (by kernel_rfl) rfl rfl rfl (by repeat (first | exact .hd | apply Sel.tl)) (by simp)) ?_
    rintro _ _ rfl
    refine vl_end [(4, _)] ⟨rfl, trivial⟩ ?_
    refine then_next ?_
    refine vc_seq ?_
    refine vc_region ?_
    refine vl_det (det_load_whole 4 (by kernel_rfl) rfl (by repeat (first | exact .hd | apply Sel.tl)) (by first | rfl | (simp; omega) | (simp [*]; done))) rfl ?_
    refine vl_eff0 (eff_store_whole 4 (by kernel_rfl) rfl rfl (by first | exact bv_one _ | exact strs_one _ | exact ints_one _ _ | (simp; done) | (simp [Value.oneCell']; done) | assumption) (by repeat (first | exact .hd | apply Sel.tl)) (by first | rfl | (simp; omega) | (simp [*]; done)) (by first | rfl | (simp; omega) | (simp [*]; done))) ?_
    rintro _ _ rfl
    refine vl_end [(4, _)] ⟨rfl, trivial⟩ ?_
    refine then_next ?_
    refine vc_ret ?_
    refine ret_c rfl rfl (by kernel_rfl) (by repeat (first | exact .hd | apply Sel.tl)) (by first | rfl | (simp; omega) | (simp [*]; done)) (.cons (.skip (.skip (.refl _)))) ?_
    exact ⟨rfl, rfl⟩
def rdS (b : Bool) (l : List UInt8) : List RecC × Int := readF b (l.length + 1) ⟨l, 0, 0⟩ []
theorem readF_end {b : Bool} {f : Nat} {s : Cs} {o : List RecC} (h : s.left = 0) : readF b (f + 1) s o = (o, 0) := by unfold readF; rw [if_pos h]
theorem readF_bad {b : Bool} {f : Nat} {s : Cs} {o : List RecC} (h : ¬ s.left = 0) (he : (rstep b s).2.e ≠ 0) : readF b (f + 1) s o = ([], (rstep b s).2.e) := by unfold readF; rw [if_neg h, if_pos he]
theorem readF_go {b : Bool} {f : Nat} {s : Cs} {o : List RecC} (h : ¬ s.left = 0) (he : ¬ (rstep b s).2.e ≠ 0) : readF b (f + 1) s o = readF b f (rstep b s).2 (o ++ [(rstep b s).1]) := by conv => lhs; unfold readF; rw [if_neg h, if_neg he]
theorem recs_snoc (o : List RecC) (x : RecC) : recs (o ++ [x]) = recs o ++ RecC.cells x := by simp [recs]
theorem read_d {l : List UInt8} (b : Bool) (hb : Bor B w0 F 1 (.slice A l.length c) l.length (bv l)) (hl : l.length ≤ 1000000000) :
    Does Try.prog B w0 24 [.bool b, .slice A l.length c] F (fun r L => ∃ A' c', r = .tuple #[.slice A' (rdS b l).1.length c', .int .i64 (rdS b l).2] ∧ L = .own 44 4 A' (rdS b l).1.length c' (recs (rdS b l).1) :: F) := by
  refine fn_walk Try.func24 31 rfl rfl rfl [(0, .bool b), (1, .slice A l.length c)] ⟨⟨rfl, rfl⟩, ⟨rfl, rfl⟩, trivial⟩ ?_
  refine vc_seq ?_
  refine vc_region ?_
  refine vl_det (det_assign rfl) rfl ?_
  refine vl_det (det_assign rfl) rfl ?_
  refine vl_end [(0, _), (1, _)] ⟨rfl, rfl, trivial⟩ ?_
  refine then_next ?_
  refine vc_seq ?_
  refine vc_region ?_
  refine vl_det (det_move rfl) rfl ?_
  refine vl_call co35 rfl (cnew_d hb (by omega)) rfl ?_
  rintro _ _ ⟨g11, A11, c11, rfl, hLL⟩
  obtain rfl := hLL.symm
  refine vl_det (det_build [(0, _)] [_] rfl rfl (by kernel_rfl)) rfl ?_
  refine vl_eff (eff_alloc_z (zv := (.agg #[.pointer none])) (by kernel_rfl) rfl) rfl ?_
  rintro _ _ ⟨g6, rfl, rfl⟩
  refine vl_eff0 (eff_store_whole 1 (by kernel_rfl) rfl rfl (by first | exact bv_one _ | exact strs_one _ | exact ints_one _ _ | (simp; done) | (simp [Value.oneCell']; done) | assumption) (by repeat (first | exact .hd | apply Sel.tl)) (by first | rfl | (simp; omega) | (simp [*]; done)) (by first | rfl | (simp; omega) | (simp [*]; done))) ?_
  rintro _ _ rfl
  refine vl_end [(0, _), (6, _)] ⟨rfl, rfl, trivial⟩ ?_
  refine then_next ?_
  refine vc_seq ?_
  refine vc_nil_row 44 4 none ?_
  refine vc_region ?_
  refine vl_det (det_assign rfl) rfl ?_
  refine vl_end [(0, _), (6, _), (7, _)] ⟨rfl, rfl, rfl, trivial⟩ ?_
  refine then_next ?_
  refine vc_seq ?_
  refine vc_block ?_
  refine vc_loopJ (fun zf zL zm => ∃ (a : Nat) (o : List RecC) (A7 : Option Addr) (c7 : Nat) (m : Nat), (a ≤ l.length ∧ l.length - a < m ∧ o.length + (l.length - a) ≤ l.length ∧ readF b m ⟨l, a, 0⟩ o = rdS b l) ∧ m = zm ∧ Sub zf [(0, .bool b), (6, .pointer (some ⟨g6, 0, none⟩)), (7, .slice A7 o.length c7)] ∧ Wk zL (Cv g11 A11 c11 ⟨l, a, 0⟩ :: .own 44 4 A7 o.length c7 (recs o) :: .blk g6 63 [.pointer (some ⟨g11, 0, none⟩)] :: .own 5 1 A11 l.length c11 (bv l) :: F)) _ ⟨0, [], none, 0, l.length + 1, ⟨Nat.zero_le _, by omega, by simp, rfl⟩, rfl, ⟨(by first | rfl | exact int_to (by omega) | exact sl_to (by omega)), (by first | rfl | exact int_to (by omega) | exact sl_to (by omega)), (by first | rfl | exact int_to (by omega) | exact sl_to (by omega)), trivial⟩, .of_perm swp3⟩ ?_
  rintro _ _ _ ⟨a, o, A7, c7, m, ⟨hal, ham, hol, hG⟩, rfl, hs, hp⟩
  refine vc_weaken _ hs (vc_wk hp ?_)
  clear hs hp
  obtain ⟨f, rfl⟩ : ∃ f, m = f + 1 := ⟨m - 1, by omega⟩
  have ho : CsOk ⟨l, a, 0⟩ := ⟨hal, by simp only; omega⟩
  have hleft : Cs.left ⟨l, a, 0⟩ = l.length - a := rfl
  obtain ⟨a', e', hs'⟩ := rstep_mk b ⟨l, a, 0⟩
  have hone := rec_one (rstep b ⟨l, a, 0⟩).1
  refine vc_seq ?_
  refine vc_seq ?_
  refine vc_region ?_
  refine vl_det (det_fieldAddr_ Try.underlying63 rfl (by kernel_rfl) rfl rfl) rfl ?_
  refine vl_det (det_load_blk (by kernel_rfl) rfl (by repeat (first | exact .hd | apply Sel.tl)) rfl) rfl ?_
  refine vl_call co36 rfl (cleft_d ho (by first | (exact Bor.own (by repeat (first | exact List.Mem.head _ | apply List.Mem.tail))) | (repeat (first | assumption | apply Bor.cons)))) rfl ?_
  rintro _ _ ⟨rfl, hLL⟩
  obtain rfl := hLL.symm
  refine vl_det (det_gtr rfl rfl) rfl ?_
  refine vl_end [(0, _), (6, _), (7, _), (16, _)] ⟨rfl, rfl, rfl, rfl, trivial⟩ ?_
  refine then_next ?_
  refine vc_decideU rfl (fun h16 => ?_) (fun h16 => ?_)
  · skip
    refine vc_skip ?_
    refine then_next ?_
    refine vc_block ?_
    refine vc_seq ?_
    refine vc_region ?_
    refine vl_det (det_load_whole 1 (by kernel_rfl) rfl (by repeat (first | exact .hd | apply Sel.tl)) (by first | rfl | (simp; omega) | (simp [*]; done))) rfl ?_
    refine vl_det (det_move rfl) rfl ?_
    refine vl_call co37 rfl (record_d b ho (by first | (exact Bor.own (by repeat (first | exact List.Mem.head _ | apply List.Mem.tail))) | (repeat (first | assumption | apply Bor.cons)))) rfl ?_
    rintro _ _ ⟨rfl, hLL⟩
    obtain rfl := hLL.symm
    rw [hs']
    refine vl_eff (eff_alloc_z (zv := (.agg #[.int .u64 0, .int .u8 0, .string ⟨#[]⟩, .string ⟨#[]⟩])) (by kernel_rfl) rfl) rfl ?_
    rintro _ _ ⟨g8, rfl, rfl⟩
    refine vl_eff0 (eff_store_whole 4 (by kernel_rfl) rfl rfl (by first | exact bv_one _ | exact strs_one _ | exact ints_one _ _ | (simp; done) | (simp [Value.oneCell']; done) | assumption) (by repeat (first | exact .hd | apply Sel.tl)) (by first | rfl | (simp; omega) | (simp [*]; done)) (by first | rfl | (simp; omega) | (simp [*]; done))) ?_
    rintro _ _ rfl
    refine vl_end [(0, _), (6, _), (7, _), (8, _)] ⟨rfl, rfl, rfl, rfl, trivial⟩ ?_
    refine then_next ?_
    refine vc_seq ?_
    refine vc_seq ?_
    refine vc_region ?_
    refine vl_det (det_fieldAddr_ Try.underlying63 rfl (by kernel_rfl) rfl rfl) rfl ?_
    refine vl_det (det_load_blk (by kernel_rfl) rfl (by repeat (first | exact .hd | apply Sel.tl)) rfl) rfl ?_
    refine vl_call co38 rfl (cerr_d.perm swp) rfl ?_
    rintro _ _ ⟨rfl, hLL⟩
    obtain rfl := hLL.symm
    refine vl_det (det_assign rfl) rfl ?_
    refine vl_end [(0, _), (6, _), (7, _), (8, _), (9, _)] ⟨rfl, rfl, rfl, rfl, rfl, trivial⟩ ?_
    refine then_next ?_
    refine vc_seq ?_
    refine vc_region ?_
    refine vl_det (det_move rfl) rfl ?_
    refine vl_det (det_neq rfl rfl) rfl ?_
    refine vl_end [(0, _), (6, _), (7, _), (8, _), (9, _), (24, _)] ⟨rfl, rfl, rfl, rfl, rfl, rfl, trivial⟩ ?_
    refine then_next ?_
    refine vc_decideU rfl (fun h24 => ?_) (fun h24 => ?_)
    · skip
      refine vc_seq ?_
      refine vc_region ?_
      refine vl_det (det_move rfl) rfl ?_
      refine vl_det (det_assign rfl) rfl ?_
      refine vl_det (det_assign rfl) rfl ?_
      refine vl_end [(4, _), (5, _)] ⟨rfl, rfl, trivial⟩ ?_
      refine then_next ?_
      refine vc_ret ?_
      refine then_ret ?_
      refine in_ret ?_
      refine loop_ret ?_
      refine in_ret ?_
      refine then_ret ?_
      have hz : rdS b l = ([], e') := by rw [← hG, readF_bad (by omega) (by rw [hs']; exact h24), hs']
      rw [hz]
      refine ret_nil_row 44 4 none ?_
      refine ret_wk (L' := .own 44 4 none 0 0 [] :: F) (.cons (.skip (.skip (.skip (.skip (.skip (.refl _))))))) ?_
      refine ret2 rfl rfl rfl ?_
      exact ⟨none, 0, rfl, rfl⟩
    · skip
      have he0 : e' = 0 := Classical.not_not.1 h24
      subst he0
      have hG2 := readF_go (b := b) (f := f) (s := ⟨l, a, 0⟩) (o := o) (by omega) (by rw [hs']; simp)
      rw [hG, hs'] at hG2
      have hless := rstep_less (b := b) (s := ⟨l, a, 0⟩) (by rw [hs'])
      have ho' := ho.rstep (b := b)
      rw [hs'] at hless ho'
      have hal' : a' ≤ l.length := ho'.at_
      have hless' : l.length - a' + 2 ≤ l.length - a := hless
      refine vc_skip ?_
      refine then_next ?_
      refine vc_region ?_
      refine vl_det (det_move rfl) rfl ?_
      refine vl_det (det_load_whole 4 (by kernel_rfl) rfl (by repeat (first | exact .hd | apply Sel.tl)) (by first | rfl | (simp; omega) | (simp [*]; done))) rfl ?_
      refine vl_pushs slT22 rfl rfl rfl (by omega) (by first | exact bv_one _ | exact strs_one _ | exact ints_one _ _ | (simp; done) | (simp [Value.oneCell']; done) | assumption) rfl rfl rfl (fun _ => rfl) (by repeat (first | exact .hd | apply Sel.tl)) (by omega) (by omega) ?_
      intro _ A29 c29
      refine vl_det (det_assign rfl) rfl ?_
      refine vl_end [(0, _), (6, _), (7, _)] ⟨rfl, rfl, rfl, trivial⟩ ?_
      refine in_normal ?_
      have el : o.length + 1 = (o ++ [(rstep b ⟨l, a, 0⟩).1]).length := by simp
      rw [el]
      refine in_loop_ ⟨_, by omega, a', o ++ [(rstep b ⟨l, a, 0⟩).1], A29, c29, f, ⟨hal', by omega, by simp; omega, hG2.symm⟩, rfl, ⟨(by first | rfl | exact int_to (by omega) | exact sl_to (by omega)), (by first | rfl | exact int_to (by omega) | exact sl_to (by omega)), (by first | rfl | exact int_to (by omega) | exact sl_to (by omega)), trivial⟩, .cons (.skip (wk_own rfl (recs_snoc _ _).symm (.refl _)))⟩
  · skip
    refine vc_exit ?_
    refine then_exit ?_
    refine loop_exit ?_
    refine in_eq ?_
    refine then_next ?_
    refine vc_seq ?_
    refine vc_region ?_
    refine vl_det (det_move rfl) rfl ?_
    refine vl_det (det_assign rfl) rfl ?_
    refine vl_det (det_assign rfl) rfl ?_
    refine vl_end [(4, _), (5, _)] ⟨rfl, rfl, trivial⟩ ?_
    refine then_next ?_
    refine vc_ret ?_
    have hz : rdS b l = (o, 0) := by rw [← hG, readF_end (by omega)]
    rw [hz]
    refine ret_wk (L' := .own 44 4 A7 o.length c7 (recs o) :: F) (.skip (.cons (.skip (.skip (.refl _))))) ?_
    refine ret2 rfl rfl rfl ?_
    exact ⟨A7, c7, rfl, rfl⟩
theorem rread_d {l : List UInt8} (b : Bool) (hb : Bor B w0 F 1 (.slice A l.length c) l.length (bv l)) (hl : l.length ≤ 1000000000) :
    Does Try.prog B w0 25 [.bool b, .slice A l.length c] F (fun r L => ∃ A' c', r = .tuple #[.slice A' (rdS b l).1.length c', .int .i64 (rdS b l).2] ∧ L = .own 44 4 A' (rdS b l).1.length c' (recs (rdS b l).1) :: F) := by
  refine fn_walk Try.func25 42 rfl rfl rfl [(0, .bool b), (1, .slice A l.length c)] ⟨⟨rfl, rfl⟩, ⟨rfl, rfl⟩, trivial⟩ ?_
  refine vc_seq ?_
  refine vc_region ?_
  refine vl_det (det_assign rfl) rfl ?_
  refine vl_det (det_assign rfl) rfl ?_
  refine vl_end [(0, _), (1, _)] ⟨rfl, rfl, trivial⟩ ?_
  refine then_next ?_
  refine vc_seq ?_
  refine vc_region ?_
  refine vl_det (det_move rfl) rfl ?_
  refine vl_call co39 rfl (rcnew_d hb (by omega)) rfl ?_
  rintro _ _ ⟨g10, A10, c10, rfl, hLL⟩
  obtain rfl := hLL.symm
  refine vl_det (det_assign rfl) rfl ?_
  refine vl_end [(0, _), (6, _)] ⟨rfl, rfl, trivial⟩ ?_
  refine then_next ?_
  refine vc_seq ?_
  refine vc_nil_row 44 4 none ?_
  refine vc_region ?_
  refine vl_det (det_assign rfl) rfl ?_
  refine vl_end [(0, _), (6, _), (7, _)] ⟨rfl, rfl, rfl, trivial⟩ ?_
  refine then_next ?_
  refine vc_seq ?_
  refine vc_block ?_
  refine vc_loopJ (fun zf zL zm => ∃ (a : Nat) (o : List RecC) (A7 : Option Addr) (c7 : Nat) (m : Nat), (a ≤ l.length ∧ l.length - a < m ∧ o.length + (l.length - a) ≤ l.length ∧ readF b m ⟨l, a, 0⟩ o = rdS b l) ∧ m = zm ∧ Sub zf [(0, .bool b), (6, .pointer (some ⟨g10, 0, none⟩)), (7, .slice A7 o.length c7)] ∧ Wk zL (Rv g10 A10 c10 ⟨l, a, 0⟩ :: .own 44 4 A7 o.length c7 (recs o) :: .own 5 1 A10 l.length c10 (bv l) :: F)) _ ⟨0, [], none, 0, l.length + 1, ⟨Nat.zero_le _, by omega, by simp, rfl⟩, rfl, ⟨(by first | rfl | exact int_to (by omega) | exact sl_to (by omega)), (by first | rfl | exact int_to (by omega) | exact sl_to (by omega)), (by first | rfl | exact int_to (by omega) | exact sl_to (by omega)), trivial⟩, .of_perm swp⟩ ?_
  rintro _ _ _ ⟨a, o, A7, c7, m, ⟨hal, ham, hol, hG⟩, rfl, hs, hp⟩
  refine vc_weaken _ hs (vc_wk hp ?_)
  clear hs hp
  obtain ⟨f, rfl⟩ : ∃ f, m = f + 1 := ⟨m - 1, by omega⟩
  have ho : CsOk ⟨l, a, 0⟩ := ⟨hal, by simp only; omega⟩
  have hleft : Cs.left ⟨l, a, 0⟩ = l.length - a := rfl
  obtain ⟨a', e', hs'⟩ := rstep_mk b ⟨l, a, 0⟩
  have hs2 : ((st1 b ⟨l, a, 0⟩).text' 4000).text' 4000 = ⟨l, a', e'⟩ := hs'
  have hone := rec_one (rstep b ⟨l, a, 0⟩).1
  have hb1 : ∀ (s' : Cs) (L : List Ch), s'.b = l → Ch.own 5 1 A10 l.length c10 (bv l) ∈ L → Bor B w0 L 1 (.slice A10 s'.b.length c10) s'.b.length (bv s'.b) := fun s' L h hm => by rw [h]; exact Bor.own hm
  refine vc_seq ?_
  refine vc_seq ?_
  refine vc_region ?_
  refine vl_det (det_move rfl) rfl ?_
  refine vl_call co40 rfl (rleft_d ho) rfl ?_
  rintro _ _ ⟨rfl, hLL⟩
  obtain rfl := hLL.symm
  refine vl_det (det_gtr rfl rfl) rfl ?_
  refine vl_end [(0, _), (6, _), (7, _), (13, _)] ⟨rfl, rfl, rfl, rfl, trivial⟩ ?_
  refine then_next ?_
  refine vc_decideU rfl (fun h13 => ?_) (fun h13 => ?_)
  · skip
    refine vc_skip ?_
    refine then_next ?_
    refine vc_block ?_
    refine vc_seq ?_
    refine vc_region ?_
    refine vl_det (det_build0 [.int .u64 0, .int .u8 0, .string ⟨#[]⟩, .string ⟨#[]⟩] (by kernel_rfl)) rfl ?_
    refine vl_eff (eff_alloc_z (zv := (.agg #[.int .u64 0, .int .u8 0, .string ⟨#[]⟩, .string ⟨#[]⟩])) (by kernel_rfl) rfl) rfl ?_
    rintro _ _ ⟨g8, rfl, rfl⟩
    refine vl_eff0 (eff_store_whole 4 (by kernel_rfl) rfl rfl (by first | exact bv_one _ | exact strs_one _ | exact ints_one _ _ | (simp; done) | (simp [Value.oneCell']; done) | assumption) (by repeat (first | exact .hd | apply Sel.tl)) (by first | rfl | (simp; omega) | (simp [*]; done)) (by first | rfl | (simp; omega) | (simp [*]; done))) ?_
    rintro _ _ rfl
    refine vl_end [(0, _), (6, _), (7, _), (8, _)] ⟨rfl, rfl, rfl, rfl, trivial⟩ ?_
    refine then_next ?_
    refine vc_seqJ (fun zf zL => Sub zf [(0, .bool b), (6, .pointer (some ⟨g10, 0, none⟩)), (7, .slice A7 o.length c7), (8, .pointer (some ⟨g8, 0, none⟩))] ∧ Wk zL (Rv g10 A10 c10 (st1 b ⟨l, a, 0⟩) :: .blk g8 44 [.int .u64 (if b = true then Cs.num ⟨l, a, 0⟩ else 0 : Nat), .int .u8 ((if b = true then (Cs.num' ⟨l, a, 0⟩).byte else 0 : UInt8).toNat : Int), .string ⟨#[]⟩, .string ⟨#[]⟩] :: .own 44 4 A7 o.length c7 (recs o) :: .own 5 1 A10 l.length c10 (bv l) :: F)) ?_ ?_
    · skip
      refine vc_seq ?_
      refine vc_region ?_
      refine vl_det (det_move rfl) rfl ?_
      refine vl_end [(0, _), (6, _), (7, _), (8, _), (15, _)] ⟨rfl, rfl, rfl, rfl, rfl, trivial⟩ ?_
      refine then_next ?_
      refine vc_condU rfl (fun h15 => ?_) (fun h15 => ?_)
      · skip
        refine vc_seq ?_
        refine vc_region ?_
        refine vl_det (det_move rfl) rfl ?_
        refine vl_call co41 rfl ((rcnum_d ho (hb1 _ _ rfl (by simp))).perm swp) rfl ?_
        rintro _ _ ⟨rfl, hLL⟩
        obtain rfl := hLL.symm
        refine vl_det (det_fieldAddr_ Try.underlying44 rfl (by kernel_rfl) rfl rfl) rfl ?_
        refine vl_eff0 (eff_store (by kernel_rfl) rfl rfl rfl (by repeat (first | exact .hd | apply Sel.tl)) (by simp)) ?_
        rintro _ _ rfl
        refine vl_end [(0, _), (6, _), (7, _), (8, _)] ⟨rfl, rfl, rfl, rfl, trivial⟩ ?_
        refine then_next ?_
        refine vc_region ?_
        refine vl_det (det_move rfl) rfl ?_
        refine vl_call co42 rfl (rcbyte_d ho.num' (hb1 _ _ (num'_b _) (by simp))) rfl ?_
        rintro _ _ ⟨rfl, hLL⟩
        obtain rfl := hLL.symm
        refine vl_det (det_fieldAddr_ Try.underlying44 rfl (by kernel_rfl) rfl rfl) rfl ?_
        refine vl_eff0 (eff_store (by kernel_rfl) rfl rfl rfl (by repeat (first | exact .hd | apply Sel.tl)) (by simp)) ?_
        rintro _ _ rfl
        refine vl_end [(0, _), (6, _), (7, _), (8, _)] ⟨rfl, rfl, rfl, rfl, trivial⟩ ?_
        have hst : st1 b ⟨l, a, 0⟩ = (Cs.num' ⟨l, a, 0⟩).byte' := if_pos h15
        rw [hst, if_pos h15, if_pos h15]
        exact in_join ⟨⟨(by first | rfl | exact int_to (by omega) | exact sl_to (by omega)), (by first | rfl | exact int_to (by omega) | exact sl_to (by omega)), (by first | rfl | exact int_to (by omega) | exact sl_to (by omega)), (by first | rfl | exact int_to (by omega) | exact sl_to (by omega)), trivial⟩, .refl _⟩
      · skip
        refine vc_skip ?_
        have hst : st1 b ⟨l, a, 0⟩ = ⟨l, a, 0⟩ := if_neg (by simpa using h15)
        rw [hst, if_neg (by simpa using h15), if_neg (by simpa using h15)]
        exact in_join ⟨⟨(by first | rfl | exact int_to (by omega) | exact sl_to (by omega)), (by first | rfl | exact int_to (by omega) | exact sl_to (by omega)), (by first | rfl | exact int_to (by omega) | exact sl_to (by omega)), (by first | rfl | exact int_to (by omega) | exact sl_to (by omega)), trivial⟩, .of_perm swp⟩
    · rintro _ _ ⟨hs, hp⟩
      refine vc_weaken _ hs (vc_wk hp ?_)
      clear hs hp
      refine vc_seq ?_
      refine vc_region ?_
      refine vl_det (det_move rfl) rfl ?_
      refine vl_call co43 rfl (rctext_d ho.st1 (hb1 _ _ (st1_b _ _) (by simp)) (by omega) (by omega)) rfl ?_
      rintro _ _ ⟨rfl, hLL⟩
      obtain rfl := hLL.symm
      refine vl_det (det_fieldAddr_ Try.underlying44 rfl (by kernel_rfl) rfl rfl) rfl ?_
      refine vl_eff0 (eff_store (by kernel_rfl) rfl rfl rfl (by repeat (first | exact .hd | apply Sel.tl)) (by simp)) ?_
      rintro _ _ rfl
      refine vl_end [(0, _), (6, _), (7, _), (8, _)] ⟨rfl, rfl, rfl, rfl, trivial⟩ ?_
      refine then_next ?_
      refine vc_seq ?_
      refine vc_region ?_
      refine vl_det (det_move rfl) rfl ?_
      refine vl_call co43 rfl (rctext_d ho.st1.text' (hb1 _ _ ((text'_b _ _).trans (st1_b _ _)) (by simp)) (by omega) (by omega)) rfl ?_
      rintro _ _ ⟨rfl, hLL⟩
      obtain rfl := hLL.symm
      refine vl_det (det_fieldAddr_ Try.underlying44 rfl (by kernel_rfl) rfl rfl) rfl ?_
      refine vl_eff0 (eff_store (by kernel_rfl) rfl rfl rfl (by repeat (first | exact .hd | apply Sel.tl)) (by simp)) ?_
      rintro _ _ rfl
      refine vl_end [(0, _), (6, _), (7, _), (8, _)] ⟨rfl, rfl, rfl, rfl, trivial⟩ ?_
      refine then_next ?_
      refine vc_seq ?_
      refine vc_seq ?_
      rw [hs2]
      refine vc_region ?_
      refine vl_det (det_move rfl) rfl ?_
      refine vl_det (det_nilCheck rfl) rfl ?_
      refine vl_det (det_fieldAddr_ Try.underlying73 rfl (by kernel_rfl) rfl rfl) rfl ?_
      refine vl_det (det_load_blk (by kernel_rfl) rfl (by repeat (first | exact .hd | apply Sel.tl)) rfl) rfl ?_
      refine vl_det (det_neq rfl rfl) rfl ?_
      refine vl_end [(0, _), (6, _), (7, _), (8, _), (32, _)] ⟨rfl, rfl, rfl, rfl, rfl, trivial⟩ ?_
      refine then_next ?_
      refine vc_decideU rfl (fun h32 => ?_) (fun h32 => ?_)
      · skip
        refine vc_seq ?_
        refine vq_region (by kernel_rfl) (by kernel_rfl) ?_
        refine vq_det (det_move rfl) rfl ?_
        refine vq_det (det_nilCheck rfl) rfl ?_
        refine vq_det (det_fieldAddr_ Try.underlying73 rfl (by kernel_rfl) rfl rfl) rfl ?_
        refine vq_det (det_load_blk (by kernel_rfl) rfl (by repeat (first | exact .hd | apply Sel.tl)) rfl) rfl ?_
        refine vq_det (det_assign rfl) rfl ?_
        refine vq_det (det_assign rfl) rfl ?_
        refine vq_end [(4, _), (5, _)] ⟨rfl, rfl, trivial⟩ ?_
        refine then_next ?_
        refine vc_ret ?_
        refine then_ret ?_
        refine in_ret ?_
        refine loop_ret ?_
        refine in_ret ?_
        refine then_ret ?_
        have hz : rdS b l = ([], e') := by rw [← hG, readF_bad (by omega) (by rw [hs']; exact h32), hs']
        rw [hz]
        refine ret_nil_row 44 4 none ?_
        refine ret_wk (L' := .own 44 4 none 0 0 [] :: F) (.cons (.skip (.skip (.skip (.skip (.refl _)))))) ?_
        refine ret2 rfl rfl rfl ?_
        exact ⟨none, 0, rfl, rfl⟩
      · skip
        have he0 : e' = 0 := Classical.not_not.1 h32
        subst he0
        have hG2 := readF_go (b := b) (f := f) (s := ⟨l, a, 0⟩) (o := o) (by omega) (by rw [hs']; simp)
        rw [hG, hs'] at hG2
        have hless := rstep_less (b := b) (s := ⟨l, a, 0⟩) (by rw [hs'])
        have ho' := ho.rstep (b := b)
        rw [hs'] at hless ho'
        have hal' : a' ≤ l.length := ho'.at_
        have hless' : l.length - a' + 2 ≤ l.length - a := hless
        refine vc_skip ?_
        refine then_next ?_
        refine vc_region ?_
        refine vl_det (det_move rfl) rfl ?_
        refine vl_det (det_load_whole 4 (by kernel_rfl) rfl (by repeat (first | exact .hd | apply Sel.tl)) (by first | rfl | (simp; omega) | (simp [*]; done))) rfl ?_
        refine vl_pushs slT22 rfl rfl rfl (by omega) (by first | exact bv_one _ | exact strs_one _ | exact ints_one _ _ | (simp; done) | (simp [Value.oneCell']; done) | assumption) rfl rfl rfl (fun _ => rfl) (by repeat (first | exact .hd | apply Sel.tl)) (by omega) (by omega) ?_
        intro _ A40 c40
        refine vl_det (det_assign rfl) rfl ?_
        refine vl_end [(0, _), (6, _), (7, _)] ⟨rfl, rfl, rfl, trivial⟩ ?_
        refine in_normal ?_
        have el : o.length + 1 = (o ++ [(rstep b ⟨l, a, 0⟩).1]).length := by simp
        rw [el]
        refine in_loop_ ⟨_, by omega, a', o ++ [(rstep b ⟨l, a, 0⟩).1], A40, c40, f, ⟨hal', by omega, by simp; omega, hG2.symm⟩, rfl, ⟨(by first | rfl | exact int_to (by omega) | exact sl_to (by omega)), (by first | rfl | exact int_to (by omega) | exact sl_to (by omega)), (by first | rfl | exact int_to (by omega) | exact sl_to (by omega)), trivial⟩, .cons (.skip (wk_own rfl (recs_snoc o (rstep b ⟨l, a, 0⟩).1).symm (.refl _)))⟩
  · skip
    refine vc_exit ?_
    refine then_exit ?_
    refine loop_exit ?_
    refine in_eq ?_
    refine then_next ?_
    refine vc_seq ?_
    refine vc_region ?_
    refine vl_det (det_move rfl) rfl ?_
    refine vl_det (det_assign rfl) rfl ?_
    refine vl_det (det_assign rfl) rfl ?_
    refine vl_end [(4, _), (5, _)] ⟨rfl, rfl, trivial⟩ ?_
    refine then_next ?_
    refine vc_ret ?_
    have hz : rdS b l = (o, 0) := by rw [← hG, readF_end (by omega)]
    rw [hz]
    refine ret_wk (L' := .own 44 4 A7 o.length c7 (recs o) :: F) (.skip (.cons (.skip (.refl _)))) ?_
    refine ret2 rfl rfl rfl ?_
    exact ⟨A7, c7, rfl, rfl⟩
end Go.Proofs.Ytlbdhdocagahpaa
