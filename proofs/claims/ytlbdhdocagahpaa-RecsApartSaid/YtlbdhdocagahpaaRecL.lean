/-
  recs.ReadColumns and the document's, by frames. Conditions: at most 10^9 bytes.
-/
import Derived.Test.YtlbdhdocagahpaaRecK
namespace Go.Proofs.Ytlbdhdocagahpaa
open Go.RowKit
set_option linter.unusedVariables false
set_option maxRecDepth 20000
variable {B : Nat} {w0 : World} {F : List Ch} {A : Option Addr} {c g : Nat} {s : Cs}
theorem tmG_ok : ∀ (k was : Nat) {s : Cs}, CsOk s → CsOk (tmG k was s).2 ∧ (tmG k was s).2.b = s.b
  | 0, _, s, h => ⟨h, rfl⟩
  | k + 1, was, s, h => by
    rw [tmG]
    split
    · have := tmG_ok k (addU was (zag s.num)) h.num'
      exact ⟨this.1, this.2.trans (num'_b s)⟩
    · exact ⟨h, rfl⟩
theorem lvF_ok {n : Nat} (hn : n ≤ 1000000000) : ∀ (f : Nat) {s : Cs} {o : List UInt8}, CsOk s → CsOk (lvF f n s o).2 ∧ (lvF f n s o).2.b = s.b
  | 0, s, o, h => ⟨h, rfl⟩
  | f + 1, s, o, h => by
    rw [lvF]
    split
    · have := lvF_ok hn f (o := o ++ List.replicate (lvK n s o) (lvX s)) (h.lvT (n := n) (o := o) hn)
      exact ⟨this.1, this.2.trans (lvT_b n s o)⟩
    · exact ⟨h, rfl⟩
def rcT (n : Nat) (l : List UInt8) : List Nat × Cs := tmG n 0 ⟨l, 0, 0⟩
def rcV (n : Nat) (l : List UInt8) : List UInt8 × Cs := lvF (n + 1) n (rcT n l).2 []
def rcR (n : Int) (l : List UInt8) : List Nat × List UInt8 × Nat × Int :=
  if n < 0 ∨ 20000 < n then ([], [], 0, 13) else if (rcV n.toNat l).2.e ≠ 0 then ([], [], 0, (rcV n.toNat l).2.e) else ((rcT n.toNat l).1, (rcV n.toNat l).1, (rcV n.toNat l).2.at_, 0)
theorem rcR_arg {n : Int} {l : List UInt8} (h : n < 0 ∨ 20000 < n) : rcR n l = ([], [], 0, 13) := if_pos h
theorem rcR_bad {n : Nat} {l : List UInt8} (h : ¬ ((n : Int) < 0 ∨ (20000 : Int) < n)) (he : ¬ (rcV n l).2.e = 0) : rcR n l = ([], [], 0, (rcV n l).2.e) := by
  unfold rcR; rw [if_neg h, Int.toNat_natCast, if_pos he]
theorem rcR_ok {n : Nat} {l : List UInt8} (h : ¬ ((n : Int) < 0 ∨ (20000 : Int) < n)) (he : (rcV n l).2.e = 0) : rcR n l = ((rcT n l).1, (rcV n l).1, (rcV n l).2.at_, 0) := by
  unfold rcR; rw [if_neg h, Int.toNat_natCast, if_neg (by simpa using he)]
theorem cat_d : Does Try.prog B w0 50 [.pointer (some ⟨g, 0, none⟩)] (Cv g A c s :: F) (fun r L => r = .int .i64 s.at_ ∧ L = Cv g A c s :: F) := by
  refine fn_walk Try.func50 10 rfl rfl rfl [(0, .pointer (some ⟨g, 0, none⟩))] ⟨⟨rfl, rfl⟩, trivial⟩ ?_
  refine vc_seq ?_
  refine vc_region ?_
  refine vl_det (det_assign rfl) rfl ?_
  refine vl_end [(0, _)] ⟨rfl, trivial⟩ ?_
  refine then_next ?_
  refine vc_seq ?_
  refine vc_seq ?_
  refine vc_region ?_
  refine vl_det (det_move rfl) rfl ?_
  refine vl_det (det_ptr_nil Try.underlying60 rfl rfl) rfl ?_
  refine vl_end [(0, _), (4, _)] ⟨rfl, rfl, trivial⟩ ?_
  refine then_next ?_
  refine vc_cond_f rfl ?_
  refine vc_skip ?_
  refine then_next ?_
  refine vc_seq ?_
  refine vc_region ?_
  refine vl_det (det_move rfl) rfl ?_
  refine vl_det (det_nilCheck rfl) rfl ?_
  refine vl_det (det_fieldAddr_ Try.underlying86 rfl (by kernel_rfl) rfl rfl) rfl ?_
  refine vl_det (det_fieldAddr_ Try.underlying84 rfl (by kernel_rfl) rfl rfl) rfl ?_
  refine vl_det (det_load_blk (by kernel_rfl) rfl (by repeat (first | exact .hd | apply Sel.tl)) rfl) rfl ?_
  refine vl_det (det_assign rfl) rfl ?_
  refine vl_end [(2, _)] ⟨rfl, trivial⟩ ?_
  refine then_next ?_
  refine vc_ret ?_
  refine ret1 rfl rfl ?_
  exact ⟨rfl, rfl⟩
theorem readcols_d (n : Int) {l : List UInt8} (hb : Bor B w0 F 1 (.slice A l.length c) l.length (bv l)) (hl : l.length ≤ 1000000000) (hn1 : -9223372036854775808 ≤ n) (hn2 : n ≤ 9223372036854775807) :
    Does Try.prog B w0 29 [.int .i64 n, .slice A l.length c] F (fun r L => ∃ A1 c1 A2 c2, r = .tuple #[.slice A1 (rcR n l).1.length c1, .slice A2 (rcR n l).2.1.length c2, .int .i64 (rcR n l).2.2.1, .int .i64 (rcR n l).2.2.2] ∧ L = .own 42 1 A1 (rcR n l).1.length c1 (u64v (rcR n l).1) :: .own 5 1 A2 (rcR n l).2.1.length c2 (bv (rcR n l).2.1) :: F) := by
  have ho0 : CsOk ⟨l, 0, 0⟩ := ⟨Nat.zero_le _, by simp only; omega⟩
  refine fn_walk Try.func29 38 rfl rfl rfl [(0, .int .i64 n), (1, .slice A l.length c)] ⟨⟨rfl, rfl⟩, ⟨rfl, rfl⟩, trivial⟩ ?_
  refine vc_seq ?_
  refine vc_region ?_
  refine vl_det (det_assign rfl) rfl ?_
  refine vl_det (det_assign rfl) rfl ?_
  refine vl_det (det_assign rfl) rfl ?_
  refine vl_det (det_assign rfl) rfl ?_
  refine vl_end [(0, _), (1, _)] ⟨rfl, rfl, trivial⟩ ?_
  refine then_next ?_
  refine vc_seq ?_
  refine vc_seq ?_
  refine vc_region ?_
  refine vl_cut 6 17 [(0, _), (1, _)] (n < 0 ∨ 20000 < n) ⟨rfl, rfl, trivial⟩ ?_ ?_
  · skip
    refine vl_det (det_move rfl) rfl ?_
    refine vl_det (det_lss rfl rfl) rfl ?_
    refine vl_det (det_move rfl) rfl ?_
    refine vl_guardn rfl rfl rfl (fun h14 => ?_) (fun h14 => ?_)
    · skip
      refine vl_det (det_move rfl) rfl ?_
      refine vl_guard_t rfl rfl ?_
      refine vl_det (det_gtr rfl rfl) rfl ?_
      refine vl_det (det_pick_f rfl rfl) rfl ?_
      exact vl_cut_end ⟨rfl, rfl, trivial⟩ (by first | rfl | exact bool_to_t (by first | omega | simp_all) | exact bool_to_f (by first | omega | simp_all) | exact bool_to (by first | omega | simp_all) | exact bool_to_b (by first | omega | simp_all))
    · skip
      refine vl_guard_f rfl rfl rfl rfl ?_
      refine vl_det (det_pick_t rfl rfl) rfl ?_
      exact vl_cut_end ⟨rfl, rfl, trivial⟩ (by first | rfl | exact bool_to_t (by first | omega | simp_all) | exact bool_to_f (by first | omega | simp_all) | exact bool_to (by first | omega | simp_all) | exact bool_to_b (by first | omega | simp_all))
  · skip
    refine vl_end [(0, _), (1, _), (17, _)] ⟨rfl, rfl, rfl, trivial⟩ ?_
    refine then_next ?_
    refine vc_decideU rfl (fun h17 => ?_) (fun h17 => ?_)
    · skip
      refine vc_seq ?_
      refine vc_region ?_
      refine vl_det (det_assign rfl) rfl ?_
      refine vl_det (det_assign rfl) rfl ?_
      refine vl_det (det_assign rfl) rfl ?_
      refine vl_det (det_assign rfl) rfl ?_
      refine vl_end [(4, _), (5, _), (6, _), (7, _)] ⟨rfl, rfl, rfl, rfl, trivial⟩ ?_
      refine then_next ?_
      refine vc_ret ?_
      refine then_ret ?_
      rw [rcR_arg h17]
      refine ret_nil_row 5 1 none ?_
      refine ret_nil_row 42 1 none ?_
      refine ret4_ rfl rfl rfl rfl rfl ?_
      exact ⟨none, 0, none, 0, rfl, rfl⟩
    · skip
      obtain ⟨m, rfl⟩ := Int.eq_ofNat_of_zero_le (show 0 ≤ n by omega)
      have hT := tmG_ok m 0 ho0
      have hV := lvF_ok (n := m) (by omega) (m + 1) (o := []) hT.1
      change CsOk (rcT m l).2 ∧ (rcT m l).2.b = l at hT
      change CsOk (rcV m l).2 ∧ (rcV m l).2.b = (rcT m l).2.b at hV
      refine vc_skip ?_
      refine then_next ?_
      refine vc_seq ?_
      refine vc_region ?_
      refine vl_det (det_move rfl) rfl ?_
      refine vl_call co35 rfl (cnew_d hb (by omega)) rfl ?_
      rintro _ _ ⟨g19, A19, c19, rfl, hLL⟩
      obtain rfl := hLL.symm
      refine vl_det (det_build [(0, _)] [_] rfl rfl (by kernel_rfl)) rfl ?_
      refine vl_eff (eff_alloc_z (zv := (.agg #[.pointer none])) (by kernel_rfl) rfl) rfl ?_
      rintro _ _ ⟨g8, rfl, rfl⟩
      refine vl_eff0 (eff_store_whole 1 (by kernel_rfl) rfl rfl (by first | exact bv_one _ | exact strs_one _ | exact ints_one _ _ | (simp; done) | (simp [Value.oneCell']; done) | assumption) (by repeat (first | exact .hd | apply Sel.tl)) (by first | rfl | (simp; omega) | (simp [*]; done)) (by first | rfl | (simp; omega) | (simp [*]; done))) ?_
      rintro _ _ rfl
      refine vl_end [(0, _), (8, _)] ⟨rfl, rfl, trivial⟩ ?_
      refine then_next ?_
      refine vc_seq ?_
      refine vc_region ?_
      refine vl_det (det_load_whole 1 (by kernel_rfl) rfl (by repeat (first | exact .hd | apply Sel.tl)) (by first | rfl | (simp; omega) | (simp [*]; done))) rfl ?_
      refine vl_det (det_move rfl) rfl ?_
      refine vl_call co48 rfl ((times_d m ho0 (.cons (Bor.own (List.Mem.head _))) (by omega)).perm swp) rfl ?_
      rintro _ _ ⟨A23, c23, rfl, hLL⟩
      obtain rfl := hLL.symm
      change VL _ _ _ _ ((23, .slice A23 (rcT m l).1.length c23) :: _) (Cv g19 A19 c19 (rcT m l).2 :: .own 42 1 A23 (rcT m l).1.length c23 (u64v (rcT m l).1) :: _)
      refine vl_det (det_assign rfl) rfl ?_
      refine vl_end [(0, _), (8, _), (9, _)] ⟨rfl, rfl, rfl, trivial⟩ ?_
      refine then_next ?_
      refine vc_seq ?_
      refine vc_region ?_
      refine vl_det (det_load_whole 1 (by kernel_rfl) rfl (by repeat (first | exact .hd | apply Sel.tl)) (by first | rfl | (simp; omega) | (simp [*]; done))) rfl ?_
      refine vl_det (det_move rfl) rfl ?_
      refine vl_call co49 rfl (levels_d m hT.1 (by rw [hT.2]; exact .cons (.cons (Bor.own (List.Mem.head _)))) (by omega)) rfl ?_
      rintro _ _ ⟨A26, c26, rfl, hLL⟩
      obtain rfl := hLL.symm
      change VL _ _ _ _ ((26, .slice A26 (rcV m l).1.length c26) :: _) (Cv g19 A19 c19 (rcV m l).2 :: .own 5 1 A26 (rcV m l).1.length c26 (bv (rcV m l).1) :: _)
      refine vl_det (det_assign rfl) rfl ?_
      refine vl_end [(8, _), (9, _), (10, _)] ⟨rfl, rfl, rfl, trivial⟩ ?_
      refine then_next ?_
      refine vc_seq ?_
      refine vc_seq ?_
      refine vc_region ?_
      refine vl_det (det_fieldAddr_ Try.underlying63 rfl (by kernel_rfl) rfl rfl) rfl ?_
      refine vl_det (det_load_blk (by kernel_rfl) rfl (by repeat (first | exact .hd | apply Sel.tl)) rfl) rfl ?_
      refine vl_call co38 rfl (cerr_d) rfl ?_
      rintro _ _ ⟨rfl, hLL⟩
      obtain rfl := hLL.symm
      refine vl_det (det_assign rfl) rfl ?_
      refine vl_end [(8, _), (9, _), (10, _), (11, _)] ⟨rfl, rfl, rfl, rfl, trivial⟩ ?_
      refine then_next ?_
      refine vc_seq ?_
      refine vc_region ?_
      refine vl_det (det_move rfl) rfl ?_
      refine vl_det (det_neq rfl rfl) rfl ?_
      refine vl_end [(8, _), (9, _), (10, _), (11, _), (31, _)] ⟨rfl, rfl, rfl, rfl, rfl, trivial⟩ ?_
      refine then_next ?_
      refine vc_decideU rfl (fun h31 => ?_) (fun h31 => ?_)
      · skip
        refine vc_seq ?_
        refine vc_region ?_
        refine vl_det (det_move rfl) rfl ?_
        refine vl_det (det_assign rfl) rfl ?_
        refine vl_det (det_assign rfl) rfl ?_
        refine vl_det (det_assign rfl) rfl ?_
        refine vl_det (det_assign rfl) rfl ?_
        refine vl_end [(4, _), (5, _), (6, _), (7, _)] ⟨rfl, rfl, rfl, rfl, trivial⟩ ?_
        refine then_next ?_
        refine vc_ret ?_
        refine then_ret ?_
        rw [rcR_bad h17 h31]
        refine ret_nil_row 5 1 none ?_
        refine ret_nil_row 42 1 none ?_
        refine ret_wk (L' := .own 42 1 none 0 0 [] :: .own 5 1 none 0 0 [] :: F) (.cons (.cons (.skip (.skip (.skip (.skip (.skip (.refl _)))))))) ?_
        refine ret4_ rfl rfl rfl rfl rfl ?_
        exact ⟨none, 0, none, 0, rfl, rfl⟩
      · skip
        refine vc_skip ?_
        refine then_next ?_
        refine vc_seq ?_
        refine vc_region ?_
        refine vl_det (det_move rfl) rfl ?_
        refine vl_det (det_move rfl) rfl ?_
        refine vl_det (det_fieldAddr_ Try.underlying63 rfl (by kernel_rfl) rfl rfl) rfl ?_
        refine vl_det (det_load_blk (by kernel_rfl) rfl (by repeat (first | exact .hd | apply Sel.tl)) rfl) rfl ?_
        refine vl_call co50 rfl (cat_d) rfl ?_
        rintro _ _ ⟨rfl, hLL⟩
        obtain rfl := hLL.symm
        refine vl_det (det_assign rfl) rfl ?_
        refine vl_det (det_assign rfl) rfl ?_
        refine vl_det (det_assign rfl) rfl ?_
        refine vl_det (det_assign rfl) rfl ?_
        refine vl_end [(4, _), (5, _), (6, _), (7, _)] ⟨rfl, rfl, rfl, rfl, trivial⟩ ?_
        refine then_next ?_
        refine vc_ret ?_
        rw [rcR_ok h17 (Classical.not_not.1 h31)]
        refine ret_wk (L' := .own 42 1 A23 (rcT m l).1.length c23 (u64v (rcT m l).1) :: .own 5 1 A26 (rcV m l).1.length c26 (bv (rcV m l).1) :: F) (.skip (.swap (.cons (.cons (.skip (.skip (.refl _))))))) ?_
        refine ret4_ rfl rfl rfl rfl rfl ?_
        exact ⟨A23, c23, A26, c26, rfl, rfl⟩
theorem rreadcols_d (n : Int) {l : List UInt8} (hb : Bor B w0 F 1 (.slice A l.length c) l.length (bv l)) (hl : l.length ≤ 1000000000) (hn1 : -9223372036854775808 ≤ n) (hn2 : n ≤ 9223372036854775807) :
    Does Try.prog B w0 30 [.int .i64 n, .slice A l.length c] F (fun r L => ∃ A1 c1 A2 c2, r = .tuple #[.slice A1 (rcR n l).1.length c1, .slice A2 (rcR n l).2.1.length c2, .int .i64 (rcR n l).2.2.1, .int .i64 (rcR n l).2.2.2] ∧ L = .own 42 1 A1 (rcR n l).1.length c1 (u64v (rcR n l).1) :: .own 5 1 A2 (rcR n l).2.1.length c2 (bv (rcR n l).2.1) :: F) := by
  have ho0 : CsOk ⟨l, 0, 0⟩ := ⟨Nat.zero_le _, by simp only; omega⟩
  refine fn_walk Try.func30 100 rfl rfl rfl [(0, .int .i64 n), (1, .slice A l.length c)] ⟨⟨rfl, rfl⟩, ⟨rfl, rfl⟩, trivial⟩ ?_
  refine vc_seq ?_
  refine vc_region ?_
  refine vl_det (det_assign rfl) rfl ?_
  refine vl_det (det_assign rfl) rfl ?_
  refine vl_det (det_assign rfl) rfl ?_
  refine vl_det (det_assign rfl) rfl ?_
  refine vl_end [(0, _), (1, _)] ⟨rfl, rfl, trivial⟩ ?_
  refine then_next ?_
  refine vc_seq ?_
  refine vc_seq ?_
  refine vc_region ?_
  refine vl_cut 6 21 [(0, _), (1, _)] (n < 0 ∨ 20000 < n) ⟨rfl, rfl, trivial⟩ ?_ ?_
  · skip
    refine vl_det (det_move rfl) rfl ?_
    refine vl_det (det_lss rfl rfl) rfl ?_
    refine vl_det (det_move rfl) rfl ?_
    refine vl_guardn rfl rfl rfl (fun h18 => ?_) (fun h18 => ?_)
    · skip
      refine vl_det (det_move rfl) rfl ?_
      refine vl_guard_t rfl rfl ?_
      refine vl_det (det_gtr rfl rfl) rfl ?_
      refine vl_det (det_pick_f rfl rfl) rfl ?_
      exact vl_cut_end ⟨rfl, rfl, trivial⟩ (by first | rfl | exact bool_to_t (by first | omega | simp_all) | exact bool_to_f (by first | omega | simp_all) | exact bool_to (by first | omega | simp_all) | exact bool_to_b (by first | omega | simp_all))
    · skip
      refine vl_guard_f rfl rfl rfl rfl ?_
      refine vl_det (det_pick_t rfl rfl) rfl ?_
      exact vl_cut_end ⟨rfl, rfl, trivial⟩ (by first | rfl | exact bool_to_t (by first | omega | simp_all) | exact bool_to_f (by first | omega | simp_all) | exact bool_to (by first | omega | simp_all) | exact bool_to_b (by first | omega | simp_all))
  · skip
    refine vl_end [(0, _), (1, _), (21, _)] ⟨rfl, rfl, rfl, trivial⟩ ?_
    refine then_next ?_
    refine vc_decideU rfl (fun h21 => ?_) (fun h21 => ?_)
    · skip
      refine vc_seq ?_
      refine vc_region ?_
      refine vl_det (det_assign rfl) rfl ?_
      refine vl_det (det_assign rfl) rfl ?_
      refine vl_det (det_assign rfl) rfl ?_
      refine vl_det (det_assign rfl) rfl ?_
      refine vl_end [(4, _), (5, _), (6, _), (7, _)] ⟨rfl, rfl, rfl, rfl, trivial⟩ ?_
      refine then_next ?_
      refine vc_ret ?_
      refine then_ret ?_
      rw [rcR_arg h21]
      refine ret_nil_row 5 1 none ?_
      refine ret_nil_row 42 1 none ?_
      refine ret4_ rfl rfl rfl rfl rfl ?_
      exact ⟨none, 0, none, 0, rfl, rfl⟩
    · skip
      obtain ⟨m, rfl⟩ := Int.eq_ofNat_of_zero_le (show 0 ≤ n by omega)
      refine vc_skip ?_
      refine then_next ?_
      refine vc_seq ?_
      refine vc_region ?_
      refine vl_det (det_move rfl) rfl ?_
      refine vl_call co39 rfl (rcnew_d hb (by omega)) rfl ?_
      rintro _ _ ⟨g23, A23, c23, rfl, hLL⟩
      obtain rfl := hLL.symm
      refine vl_det (det_assign rfl) rfl ?_
      refine vl_end [(0, _), (8, _)] ⟨rfl, rfl, trivial⟩ ?_
      refine then_next ?_
      refine vc_seq ?_
      refine vc_nil_row 42 1 none ?_
      have hb1 : ∀ (s' : Cs) (L : List Ch), s'.b = l → Ch.own 5 1 A23 l.length c23 (bv l) ∈ L → Bor B w0 L 1 (.slice A23 s'.b.length c23) s'.b.length (bv s'.b) := fun s' L h hm => by rw [h]; exact Bor.own hm
      refine vc_region ?_
      refine vl_det (det_assign rfl) rfl ?_
      refine vl_end [(0, _), (8, _), (9, _)] ⟨rfl, rfl, rfl, trivial⟩ ?_
      refine then_next ?_
      refine vc_seq ?_
      refine vc_region ?_
      refine vl_det (det_assign rfl) rfl ?_
      refine vl_end [(0, _), (8, _), (9, _), (10, _)] ⟨rfl, rfl, rfl, rfl, trivial⟩ ?_
      refine then_next ?_
      refine vc_seq ?_
      refine vc_seq ?_
      refine vc_region ?_
      refine vl_det (det_assign rfl) rfl ?_
      refine vl_end [(0, _), (8, _), (9, _), (10, _), (11, _)] ⟨rfl, rfl, rfl, rfl, rfl, trivial⟩ ?_
      refine then_next ?_
      refine vc_block ?_
      refine vc_loopJ (fun zf zL zm => ∃ (q was : Nat) (s' : Cs) (o : List Nat) (A5 : Option Addr) (c5 : Nat), (CsOk s' ∧ s'.b = l ∧ s'.e = 0 ∧ o.length + q = m ∧ rcT m l = (o ++ (tmG q was s').1, (tmG q was s').2)) ∧ q = zm ∧ Sub zf [(0, .int .i64 m), (8, .pointer (some ⟨g23, 0, none⟩)), (9, .slice A5 o.length c5), (10, .int .u64 was), (11, .int .i64 o.length)] ∧ Wk zL (Rv g23 A23 c23 s' :: .own 42 1 A5 o.length c5 (u64v o) :: .own 5 1 A23 l.length c23 (bv l) :: F)) _ ⟨m, 0, ⟨l, 0, 0⟩, [], none, 0, ⟨ho0, rfl, rfl, by simp, rfl⟩, rfl, ⟨(by first | rfl | exact int_to (by omega) | exact sl_to (by omega)), (by first | rfl | exact int_to (by omega) | exact sl_to (by omega)), (by first | rfl | exact int_to (by omega) | exact sl_to (by omega)), (by first | rfl | exact int_to (by omega) | exact sl_to (by omega)), (by first | rfl | exact int_to (by omega) | exact sl_to (by omega)), trivial⟩, .of_perm swp⟩ ?_
      rintro _ _ _ ⟨q, was, s', o, A5, c5, ⟨ho', hsb, he0, hq, hG⟩, rfl, hs, hp⟩
      refine vc_weaken _ hs (vc_wk hp ?_)
      clear hs hp
      refine vc_seq ?_
      refine vc_seq ?_
      refine vc_region ?_
      refine vl_det (det_move rfl) rfl ?_
      refine vl_det (det_move rfl) rfl ?_
      refine vl_det (det_lss rfl rfl) rfl ?_
      refine vl_end [(0, _), (8, _), (9, _), (10, _), (11, _), (26, _)] ⟨rfl, rfl, rfl, rfl, rfl, rfl, trivial⟩ ?_
      refine then_next ?_
      refine vc_decideU rfl (fun h26 => ?_) (fun h26 => ?_)
      · skip
        have hnl : s'.num < 18446744073709551616 := by
          unfold Cs.num
          split
          · omega
          · exact (scanS_facts _).1
        obtain ⟨q', rfl⟩ : ∃ q', q = q' + 1 := ⟨q - 1, by omega⟩
        rw [tmG, if_pos he0] at hG
        refine vc_skip ?_
        refine then_next ?_
        refine vc_seq ?_
        refine vc_block ?_
        refine vc_seq ?_
        refine vc_region ?_
        refine vl_det (det_move rfl) rfl ?_
        refine vl_det (det_move rfl) rfl ?_
        refine vl_call co41 rfl (rcnum_d ho' (hb1 s' _ hsb (by simp))) rfl ?_
        rintro _ _ ⟨rfl, hLL⟩
        obtain rfl := hLL.symm
        refine vl_call co51 rfl (rzag_d _ hnl) rfl ?_
        rintro _ _ ⟨rfl, hLL⟩
        obtain rfl := hLL.symm
        refine vl_det (det_add rfl rfl (addU_wrap _ _)) rfl ?_
        refine vl_det (det_assign rfl) rfl ?_
        refine vl_end [(0, _), (8, _), (9, _), (10, _), (11, _)] ⟨rfl, rfl, rfl, rfl, rfl, trivial⟩ ?_
        refine then_next ?_
        refine vc_seq ?_
        refine vc_seq ?_
        refine vc_region ?_
        refine vl_det (det_move rfl) rfl ?_
        refine vl_det (det_nilCheck rfl) rfl ?_
        refine vl_det (det_fieldAddr_ Try.underlying73 rfl (by kernel_rfl) rfl rfl) rfl ?_
        refine vl_det (det_load_blk (by kernel_rfl) rfl (by repeat (first | exact .hd | apply Sel.tl)) rfl) rfl ?_
        refine vl_det (det_neq rfl rfl) rfl ?_
        refine vl_end [(0, _), (8, _), (9, _), (10, _), (11, _), (38, _)] ⟨rfl, rfl, rfl, rfl, rfl, rfl, trivial⟩ ?_
        refine then_next ?_
        refine vc_decideU rfl (fun h38 => ?_) (fun h38 => ?_)
        · skip
          refine vc_seq ?_
          refine vq_region (by kernel_rfl) (by kernel_rfl) ?_
          refine vq_det (det_move rfl) rfl ?_
          refine vq_det (det_nilCheck rfl) rfl ?_
          refine vq_det (det_fieldAddr_ Try.underlying73 rfl (by kernel_rfl) rfl rfl) rfl ?_
          refine vq_det (det_load_blk (by kernel_rfl) rfl (by repeat (first | exact .hd | apply Sel.tl)) rfl) rfl ?_
          refine vq_det (det_assign rfl) rfl ?_
          refine vq_det (det_assign rfl) rfl ?_
          refine vq_det (det_assign rfl) rfl ?_
          refine vq_det (det_assign rfl) rfl ?_
          refine vq_end [(4, _), (5, _), (6, _), (7, _)] ⟨rfl, rfl, rfl, rfl, trivial⟩ ?_
          refine then_next ?_
          refine vc_ret ?_
          refine then_ret ?_
          refine in_ret ?_
          refine then_ret ?_
          refine loop_ret ?_
          refine in_ret ?_
          refine then_ret ?_
          have hz : (rcV m l).2 = s'.num' := by rw [rcV, hG, tmG_bad h38, lvF_end (fun h => h38 h.2)]
          rw [rcR_bad h21 (by rw [hz]; exact h38), hz]
          refine ret_nil_row 5 1 none ?_
          refine ret_nil_row 42 1 none ?_
          refine ret_wk (L' := .own 42 1 none 0 0 [] :: .own 5 1 none 0 0 [] :: F) (.cons (.cons (.skip (.skip (.skip (.refl _)))))) ?_
          refine ret4_ rfl rfl rfl rfl rfl ?_
          exact ⟨none, 0, none, 0, rfl, rfl⟩
        · skip
          refine vc_skip ?_
          refine then_next ?_
          refine vc_region ?_
          refine vl_det (det_move rfl) rfl ?_
          refine vl_det (det_move rfl) rfl ?_
          refine vl_push slT52 rfl rfl rfl rfl rfl (fun _ => rfl) (by repeat (first | exact .hd | apply Sel.tl)) (by omega) (by omega) ?_
          intro _ A46 c46
          refine vl_det (det_assign rfl) rfl ?_
          refine vl_end [(0, _), (8, _), (9, _), (10, _), (11, _)] ⟨rfl, rfl, rfl, rfl, rfl, trivial⟩ ?_
          refine in_normal ?_
          refine then_next ?_
          refine vc_region ?_
          refine vl_det (det_move rfl) rfl ?_
          refine vl_det (det_add rfl rfl (w_i64 (by omega) (by omega))) rfl ?_
          refine vl_det (det_assign rfl) rfl ?_
          refine vl_end [(0, _), (8, _), (9, _), (10, _), (11, _)] ⟨rfl, rfl, rfl, rfl, rfl, trivial⟩ ?_
          have el : o.length + 1 = (o ++ [addU was (zag s'.num)]).length := by simp
          rw [el]
          refine in_loop_ ⟨_, by omega, q', addU was (zag s'.num), s'.num', o ++ [addU was (zag s'.num)], A46, c46, ⟨ho'.num', (num'_b _).trans hsb, Classical.not_not.1 h38, by simp; omega, by rw [hG]; simp⟩, rfl, ⟨(by first | rfl | exact int_to (by omega) | exact sl_to (by omega)), (by first | rfl | exact int_to (by omega) | exact sl_to (by omega)), (by first | rfl | exact int_to (by omega) | exact sl_to (by omega)), (by first | rfl | exact int_to (by omega) | exact sl_to (by omega)), (by first | rfl | exact int_to (by omega) | exact sl_to (by omega)), trivial⟩, .cons (wk_own rfl (by simp [u64v]) (.refl _))⟩
      · skip
        have hq0 : q = 0 := by omega
        subst hq0
        have hT : rcT m l = (o, s') := by rw [hG]; simp [tmG]
        refine vc_exit ?_
        refine then_exit ?_
        refine loop_exit ?_
        refine in_eq ?_
        refine then_next ?_
        refine vc_seq ?_
        refine vc_nil_row 5 1 none ?_
        refine vc_region ?_
        refine vl_det (det_assign rfl) rfl ?_
        refine vl_end [(0, _), (8, _), (9, _), (12, _)] ⟨rfl, rfl, rfl, rfl, trivial⟩ ?_
        refine then_next ?_
        refine vc_seq ?_
        refine vc_block ?_
        refine vc_loopJ (fun zf zL zm => ∃ (f : Nat) (s2 : Cs) (v : List UInt8) (A6 : Option Addr) (c6 : Nat), (CsOk s2 ∧ s2.b = l ∧ s2.e = 0 ∧ v.length ≤ m ∧ m - v.length < f ∧ lvF f m s2 v = rcV m l) ∧ f = zm ∧ Sub zf [(0, .int .i64 m), (8, .pointer (some ⟨g23, 0, none⟩)), (9, .slice A5 o.length c5), (12, .slice A6 v.length c6)] ∧ Wk zL (Rv g23 A23 c23 s2 :: .own 5 1 A6 v.length c6 (bv v) :: .own 42 1 A5 o.length c5 (u64v o) :: .own 5 1 A23 l.length c23 (bv l) :: F)) _ ⟨m + 1, s', [], none, 0, ⟨ho', hsb, he0, Nat.zero_le _, by simp, by rw [rcV, hT]⟩, rfl, ⟨(by first | rfl | exact int_to (by omega) | exact sl_to (by omega)), (by first | rfl | exact int_to (by omega) | exact sl_to (by omega)), (by first | rfl | exact int_to (by omega) | exact sl_to (by omega)), (by first | rfl | exact int_to (by omega) | exact sl_to (by omega)), trivial⟩, .of_perm swp⟩ ?_
        rintro _ _ _ ⟨f, s2, v, A6, c6, ⟨ho2, hsb2, he2, hvl, hf, hV⟩, rfl, hs, hp⟩
        refine vc_weaken _ hs (vc_wk hp ?_)
        clear hs hp
        refine vc_seq ?_
        refine vc_seq ?_
        refine vc_region ?_
        refine vl_det (det_move rfl) rfl ?_
        refine vl_det (det_len_sl Try.underlying32 rfl) rfl ?_
        refine vl_det (det_move rfl) rfl ?_
        refine vl_det (det_lss rfl rfl) rfl ?_
        refine vl_end [(0, _), (8, _), (9, _), (12, _), (50, _)] ⟨rfl, rfl, rfl, rfl, rfl, trivial⟩ ?_
        refine then_next ?_
        refine vc_decideU rfl (fun h50 => ?_) (fun h50 => ?_)
        · skip
          obtain ⟨f', rfl⟩ : ∃ f', f = f' + 1 := ⟨f - 1, by omega⟩
          have hkl := lvK_le (s := s2) hvl (show m ≤ 1000000000 by omega)
          rw [lvF_go ⟨by omega, he2⟩] at hV
          have hLb := hb1 s2 (.own 5 1 A6 v.length c6 (bv v) :: .own 42 1 A5 o.length c5 (u64v o) :: .own 5 1 A23 l.length c23 (bv l) :: F) hsb2 (by simp)
          have hbyte : Does Try.prog B w0 42 [.pointer (some ⟨g23, 0, none⟩)] _ (fun r L => r = .int .u8 ((lvX s2).toNat : Int) ∧ L = _) := rcbyte_d (g := g23) ho2 hLb
          have hint : Does Try.prog B w0 52 [.pointer (some ⟨g23, 0, none⟩), .int .i64 ((m : Int) - v.length)] _ (fun r L => r = .int .i64 (lvK m s2 v) ∧ L = Rv g23 A23 c23 (lvS m s2 v) :: _) := rcint_d (g := g23) ho2.byte' (by rw [byte'_b]; exact hLb) (by omega) (by omega)
          refine vc_skip ?_
          refine then_next ?_
          refine vc_block ?_
          refine vc_seq ?_
          refine vc_region ?_
          refine vl_det (det_move rfl) rfl ?_
          refine vl_call co42 rfl (hbyte) rfl ?_
          rintro _ _ ⟨rfl, hLL⟩
          obtain rfl := hLL.symm
          refine vl_det (det_assign rfl) rfl ?_
          refine vl_end [(0, _), (8, _), (9, _), (12, _), (13, _)] ⟨rfl, rfl, rfl, rfl, rfl, trivial⟩ ?_
          refine then_next ?_
          refine vc_seq ?_
          refine vc_region ?_
          refine vl_det (det_move rfl) rfl ?_
          refine vl_det (det_move rfl) rfl ?_
          refine vl_det (det_move rfl) rfl ?_
          refine vl_det (det_len_sl Try.underlying32 rfl) rfl ?_
          refine vl_det (det_sub rfl rfl (w_i64 (by omega) (by omega))) rfl ?_
          refine vl_call co52 rfl (hint) rfl ?_
          rintro _ _ ⟨rfl, hLL⟩
          obtain rfl := hLL.symm
          refine vl_det (det_assign rfl) rfl ?_
          refine vl_end [(0, _), (8, _), (9, _), (12, _), (13, _), (14, _)] ⟨rfl, rfl, rfl, rfl, rfl, rfl, trivial⟩ ?_
          refine then_next ?_
          refine vc_seq ?_
          refine vc_seq ?_
          refine vc_region ?_
          refine vl_det (det_move rfl) rfl ?_
          refine vl_det (det_nilCheck rfl) rfl ?_
          refine vl_det (det_fieldAddr_ Try.underlying73 rfl (by kernel_rfl) rfl rfl) rfl ?_
          refine vl_det (det_load_blk (by kernel_rfl) rfl (by repeat (first | exact .hd | apply Sel.tl)) rfl) rfl ?_
          refine vl_det (det_neq rfl rfl) rfl ?_
          refine vl_end [(0, _), (8, _), (9, _), (12, _), (13, _), (14, _), (63, _)] ⟨rfl, rfl, rfl, rfl, rfl, rfl, rfl, trivial⟩ ?_
          refine then_next ?_
          refine vc_decideU rfl (fun h63 => ?_) (fun h63 => ?_)
          · skip
            refine vc_seq ?_
            refine vq_region (by kernel_rfl) (by kernel_rfl) ?_
            refine vq_det (det_move rfl) rfl ?_
            refine vq_det (det_nilCheck rfl) rfl ?_
            refine vq_det (det_fieldAddr_ Try.underlying73 rfl (by kernel_rfl) rfl rfl) rfl ?_
            refine vq_det (det_load_blk (by kernel_rfl) rfl (by repeat (first | exact .hd | apply Sel.tl)) rfl) rfl ?_
            refine vq_det (det_assign rfl) rfl ?_
            refine vq_det (det_assign rfl) rfl ?_
            refine vq_det (det_assign rfl) rfl ?_
            refine vq_det (det_assign rfl) rfl ?_
            refine vq_end [(4, _), (5, _), (6, _), (7, _)] ⟨rfl, rfl, rfl, rfl, trivial⟩ ?_
            refine then_next ?_
            refine vc_ret ?_
            refine then_ret ?_
            refine in_ret ?_
            refine loop_ret ?_
            refine in_ret ?_
            refine then_ret ?_
            have hbad : ¬ lvBad m s2 v := fun h => h63 h.1
            have hTT : lvT m s2 v = lvS m s2 v := if_neg hbad
            have hz : (rcV m l).2 = lvS m s2 v := by rw [← hV, hTT, lvF_end (fun h => h63 h.2)]
            rw [rcR_bad h21 (by rw [hz]; exact h63), hz]
            refine ret_nil_row 5 1 none ?_
            refine ret_nil_row 42 1 none ?_
            refine ret_wk (L' := .own 42 1 none 0 0 [] :: .own 5 1 none 0 0 [] :: F) (.cons (.cons (.skip (.skip (.skip (.skip (.refl _))))))) ?_
            refine ret4_ rfl rfl rfl rfl rfl ?_
            exact ⟨none, 0, none, 0, rfl, rfl⟩
          · skip
            refine vc_skip ?_
            refine then_next ?_
            refine vc_seq ?_
            refine vc_seq ?_
            refine vc_region ?_
            refine vl_cut 17 84 [(0, _), (8, _), (9, _), (12, _), (13, _), (14, _)] ((lvK m s2 v : Int) = 0 ∨ (0 : Int) < v.length ∧ ((v.getD (v.length - 1) 0).toNat : Int) = ((lvX s2).toNat : Int)) ⟨rfl, rfl, rfl, rfl, rfl, rfl, trivial⟩ ?_ ?_
            · skip
              refine vl_det (det_move rfl) rfl ?_
              refine vl_det (det_eql rfl rfl) rfl ?_
              refine vl_det (det_move rfl) rfl ?_
              refine vl_guardn rfl rfl rfl (fun h70 => ?_) (fun h70 => ?_)
              · skip
                refine vl_det (det_move rfl) rfl ?_
                refine vl_guard_t rfl rfl ?_
                refine vl_det (det_len_sl Try.underlying32 rfl) rfl ?_
                refine vl_guard_t rfl rfl ?_
                refine vl_det (det_gtr rfl rfl) rfl ?_
                refine vl_guard_t rfl rfl ?_
                refine vl_det (det_move rfl) rfl ?_
                refine vl_guardp rfl rfl rfl (fun h74 => ?_) (fun h74 => ?_)
                · skip
                  refine vl_det (det_move rfl) rfl ?_
                  refine vl_guard_t rfl rfl ?_
                  refine vl_det (det_move rfl) rfl ?_
                  refine vl_guard_t rfl rfl ?_
                  refine vl_det (det_len_sl Try.underlying32 rfl) rfl ?_
                  refine vl_guard_t rfl rfl ?_
                  refine vl_det (det_sub rfl rfl (r := ((v.length - 1 : Nat) : Int)) ((w_i64 (by omega) (by omega)).trans (by omega))) rfl ?_
                  refine vl_guard_t rfl rfl ?_
                  refine vl_det (det_indexAddr (size := 1) Try.underlying32 (by kernel_rfl) rfl rfl rfl (by omega) (by first | (exact Bor.own (by repeat (first | exact List.Mem.head _ | apply List.Mem.tail))) | (repeat (first | assumption | apply Bor.cons)))) rfl ?_
                  refine vl_guard_t rfl rfl ?_
                  refine vl_det (det_load_u8 (by kernel_rfl) rfl (by first | (exact Bor.own (by repeat (first | exact List.Mem.head _ | apply List.Mem.tail))) | (repeat (first | assumption | apply Bor.cons))) (by omega)) rfl ?_
                  refine vl_guard_t rfl rfl ?_
                  refine vl_det (det_move rfl) rfl ?_
                  refine vl_guard_t rfl rfl ?_
                  refine vl_det (det_eql rfl rfl) rfl ?_
                  refine vl_guard_t rfl rfl ?_
                  refine vl_det (det_pick_t rfl rfl) rfl ?_
                  refine vl_det (det_pick_f rfl rfl) rfl ?_
                  exact vl_cut_end ⟨rfl, rfl, rfl, rfl, rfl, rfl, trivial⟩ (by first | rfl | exact bool_to_t (by first | omega | simp_all) | exact bool_to_f (by first | omega | simp_all) | exact bool_to (by first | omega | simp_all) | exact bool_to_b (by first | omega | simp_all))
                · skip
                  refine vl_guard_f rfl rfl rfl rfl ?_
                  refine vl_guard_f rfl rfl rfl rfl ?_
                  refine vl_guard_f rfl rfl rfl rfl ?_
                  refine vl_guard_f rfl rfl rfl rfl ?_
                  refine vl_guard_f rfl rfl rfl rfl ?_
                  refine vl_guard_f rfl rfl rfl rfl ?_
                  refine vl_guard_f rfl rfl rfl rfl ?_
                  refine vl_guard_t rfl rfl ?_
                  refine vl_det (det_pick_f rfl rfl) rfl ?_
                  refine vl_det (det_pick_f rfl rfl) rfl ?_
                  exact vl_cut_end ⟨rfl, rfl, rfl, rfl, rfl, rfl, trivial⟩ (by first | rfl | exact bool_to_t (by first | omega | simp_all) | exact bool_to_f (by first | omega | simp_all) | exact bool_to (by first | omega | simp_all) | exact bool_to_b (by first | omega | simp_all))
              · skip
                refine vl_guard_f rfl rfl rfl rfl ?_
                refine vl_guard_f rfl rfl rfl rfl ?_
                refine vl_guard_f rfl rfl rfl rfl ?_
                refine vl_guard_u rfl rfl rfl ?_
                refine vl_guard_u rfl rfl rfl ?_
                refine vl_guard_u rfl rfl rfl ?_
                refine vl_guard_u rfl rfl rfl ?_
                refine vl_guard_u rfl rfl rfl ?_
                refine vl_guard_u rfl rfl rfl ?_
                refine vl_guard_u rfl rfl rfl ?_
                refine vl_guard_u rfl rfl rfl ?_
                refine vl_guard_f rfl rfl rfl rfl ?_
                refine vl_det (det_pick_t rfl rfl) rfl ?_
                exact vl_cut_end ⟨rfl, rfl, rfl, rfl, rfl, rfl, trivial⟩ (by first | rfl | exact bool_to_t (by first | omega | simp_all) | exact bool_to_f (by first | omega | simp_all) | exact bool_to (by first | omega | simp_all) | exact bool_to_b (by first | omega | simp_all))
            · skip
              refine vl_end [(0, _), (8, _), (9, _), (12, _), (13, _), (14, _), (84, _)] ⟨rfl, rfl, rfl, rfl, rfl, rfl, rfl, trivial⟩ ?_
              refine then_next ?_
              refine vc_decideU rfl (fun h84 => ?_) (fun h84 => ?_)
              · skip
                refine vc_seq ?_
                refine vc_region ?_
                refine vl_det (det_assign rfl) rfl ?_
                refine vl_det (det_assign rfl) rfl ?_
                refine vl_det (det_assign rfl) rfl ?_
                refine vl_det (det_assign rfl) rfl ?_
                refine vl_end [(4, _), (5, _), (6, _), (7, _)] ⟨rfl, rfl, rfl, rfl, trivial⟩ ?_
                refine then_next ?_
                refine vc_ret ?_
                refine then_ret ?_
                refine in_ret ?_
                refine loop_ret ?_
                refine in_ret ?_
                refine then_ret ?_
                have hS : (lvS m s2 v).e = 0 := Classical.not_not.1 h63
                have hbad : lvBad m s2 v := ⟨hS, by rcases h84 with h | h; exact .inl (by omega); exact .inr ⟨by omega, UInt8.toNat_inj.1 (by omega)⟩⟩
                have hTT : lvT m s2 v = (lvS m s2 v).failed 2 := if_pos hbad
                have hfe : ((lvS m s2 v).failed 2).e = 2 := by unfold Cs.failed; rw [if_pos hS]
                have hz : (rcV m l).2.e = 2 := by rw [← hV, hTT, lvF_end (fun h => by rw [hfe] at h; exact absurd h.2 (by decide)), hfe]
                rw [rcR_bad h21 (by rw [hz]; decide), hz]
                refine ret_nil_row 5 1 none ?_
                refine ret_nil_row 42 1 none ?_
                refine ret_wk (L' := .own 42 1 none 0 0 [] :: .own 5 1 none 0 0 [] :: F) (.cons (.cons (.skip (.skip (.skip (.skip (.refl _))))))) ?_
                refine ret4_ rfl rfl rfl rfl rfl ?_
                exact ⟨none, 0, none, 0, rfl, rfl⟩
              · skip
                have hbad : ¬ lvBad m s2 v := fun h => h84 (by rcases h.2 with h | h; exact .inl (by omega); exact .inr ⟨by omega, by rw [h.2]⟩)
                have hTT : lvT m s2 v = lvS m s2 v := if_neg hbad
                rw [hTT] at hV
                have hS : (lvS m s2 v).e = 0 := Classical.not_not.1 h63
                refine vc_skip ?_
                refine then_next ?_
                refine vc_seq ?_
                refine vc_region ?_
                refine vl_det (det_assign rfl) rfl ?_
                refine vl_end [(0, _), (8, _), (9, _), (12, _), (13, _), (14, _), (15, _)] ⟨rfl, rfl, rfl, rfl, rfl, rfl, rfl, trivial⟩ ?_
                refine then_next ?_
                refine vc_block ?_
                refine vc_loopJ (fun zf zL zm => ∃ (j : Nat) (A7 : Option Addr) (c7 : Nat), (j ≤ lvK m s2 v) ∧ lvK m s2 v - j = zm ∧ Sub zf [(0, .int .i64 m), (8, .pointer (some ⟨g23, 0, none⟩)), (9, .slice A5 o.length c5), (12, .slice A7 (v.length + j) c7), (13, .int .u8 (lvX s2).toNat), (14, .int .i64 (lvK m s2 v)), (15, .int .i64 j)] ∧ Wk zL (Rv g23 A23 c23 (lvS m s2 v) :: .own 5 1 A7 (v.length + j) c7 (bv (v ++ List.replicate j (lvX s2))) :: .own 42 1 A5 o.length c5 (u64v o) :: .own 5 1 A23 l.length c23 (bv l) :: F)) _ ⟨0, A6, c6, Nat.zero_le _, rfl, ⟨(by first | rfl | exact int_to (by omega) | exact sl_to (by omega)), (by first | rfl | exact int_to (by omega) | exact sl_to (by omega)), (by first | rfl | exact int_to (by omega) | exact sl_to (by omega)), (by first | rfl | exact int_to (by omega) | exact sl_to (by omega)), (by first | rfl | exact int_to (by omega) | exact sl_to (by omega)), (by first | rfl | exact int_to (by omega) | exact sl_to (by omega)), (by first | rfl | exact int_to (by omega) | exact sl_to (by omega)), trivial⟩, .cons (wk_own rfl (by simp) (.refl _))⟩ ?_
                rintro _ _ _ ⟨j, A7, c7, hj, rfl, hs, hp⟩
                refine vc_weaken _ hs (vc_wk hp ?_)
                clear hs hp
                refine vc_seq ?_
                refine vc_seq ?_
                refine vc_region ?_
                refine vl_det (det_move rfl) rfl ?_
                refine vl_det (det_move rfl) rfl ?_
                refine vl_det (det_lss rfl rfl) rfl ?_
                refine vl_end [(0, _), (8, _), (9, _), (12, _), (13, _), (14, _), (15, _), (87, _)] ⟨rfl, rfl, rfl, rfl, rfl, rfl, rfl, rfl, trivial⟩ ?_
                refine then_next ?_
                refine vc_decideU rfl (fun h87 => ?_) (fun h87 => ?_)
                · skip
                  refine vc_skip ?_
                  refine then_next ?_
                  refine vc_seq ?_
                  refine vc_block ?_
                  refine vc_region ?_
                  refine vl_det (det_move rfl) rfl ?_
                  refine vl_det (det_move rfl) rfl ?_
                  refine vl_push slT32 rfl rfl rfl rfl rfl (fun _ => rfl) (by repeat (first | exact .hd | apply Sel.tl)) (by omega) (by omega) ?_
                  intro _ A93 c93
                  refine vl_det (det_assign rfl) rfl ?_
                  refine vl_end [(0, _), (8, _), (9, _), (12, _), (13, _), (14, _), (15, _)] ⟨rfl, rfl, rfl, rfl, rfl, rfl, rfl, trivial⟩ ?_
                  refine in_normal ?_
                  refine then_next ?_
                  refine vc_region ?_
                  refine vl_det (det_move rfl) rfl ?_
                  refine vl_det (det_add rfl rfl (w_i64 (by omega) (by omega))) rfl ?_
                  refine vl_det (det_assign rfl) rfl ?_
                  refine vl_end [(0, _), (8, _), (9, _), (12, _), (13, _), (14, _), (15, _)] ⟨rfl, rfl, rfl, rfl, rfl, rfl, rfl, trivial⟩ ?_
                  refine in_loop_ ⟨_, by omega, j + 1, A93, c93, by omega, rfl, ⟨(by first | rfl | exact int_to (by omega) | exact sl_to (by omega)), (by first | rfl | exact int_to (by omega) | exact sl_to (by omega)), (by first | rfl | exact int_to (by omega) | exact sl_to (by omega)), (by first | rfl | exact int_to (by omega) | exact sl_to (by omega)), (by first | rfl | exact int_to (by omega) | exact sl_to (by omega)), (by first | rfl | exact int_to (by omega) | exact sl_to (by omega)), (by first | rfl | exact int_to (by omega) | exact sl_to (by omega)), trivial⟩, .cons (wk_own (by omega) (by rw [List.replicate_succ', ← List.append_assoc]; simp [bv]) (.refl _))⟩
                · skip
                  have hjk : j = lvK m s2 v := by omega
                  subst hjk
                  refine vc_exit ?_
                  refine then_exit ?_
                  refine loop_exit ?_
                  refine in_eq ?_
                  refine in_normal ?_
                  have el : v.length + lvK m s2 v = (v ++ List.replicate (lvK m s2 v) (lvX s2)).length := by simp
                  rw [el]
                  refine in_loop_ ⟨_, by omega, f', lvS m s2 v, v ++ List.replicate (lvK m s2 v) (lvX s2), A7, c7, ⟨ho2.lvS (by omega), (lvS_b _ _ _).trans hsb2, hS, by rw [← el]; exact hkl, by rw [← el]; have h3 : lvK m s2 v ≠ 0 := fun hz => hbad ⟨hS, .inl hz⟩; omega, hV⟩, rfl, ⟨(by first | rfl | exact int_to (by omega) | exact sl_to (by omega)), (by first | rfl | exact int_to (by omega) | exact sl_to (by omega)), (by first | rfl | exact int_to (by omega) | exact sl_to (by omega)), (by first | rfl | exact int_to (by omega) | exact sl_to (by omega)), trivial⟩, .refl _⟩
        · skip
          refine vc_exit ?_
          refine then_exit ?_
          refine loop_exit ?_
          refine in_eq ?_
          refine then_next ?_
          refine vc_seq ?_
          refine vq_region (by kernel_rfl) (by kernel_rfl) ?_
          refine vq_det (det_move rfl) rfl ?_
          refine vq_det (det_move rfl) rfl ?_
          refine vq_det (det_move rfl) rfl ?_
          refine vq_det (det_nilCheck rfl) rfl ?_
          refine vq_det (det_fieldAddr_ Try.underlying73 rfl (by kernel_rfl) rfl rfl) rfl ?_
          refine vq_det (det_load_blk (by kernel_rfl) rfl (by repeat (first | exact .hd | apply Sel.tl)) rfl) rfl ?_
          refine vq_det (det_assign rfl) rfl ?_
          refine vq_det (det_assign rfl) rfl ?_
          refine vq_det (det_assign rfl) rfl ?_
          refine vq_det (det_assign rfl) rfl ?_
          refine vq_end [(4, _), (5, _), (6, _), (7, _)] ⟨rfl, rfl, rfl, rfl, trivial⟩ ?_
          refine then_next ?_
          refine vc_ret ?_
          have hz : rcV m l = (v, s2) := by rw [← hV, lvF_end (by omega)]
          rw [rcR_ok h21 (by rw [hz]; exact he2), hz, hT]
          refine ret_wk (L' := .own 42 1 A5 o.length c5 (u64v o) :: .own 5 1 A6 v.length c6 (bv v) :: F) (.skip (.swap (.cons (.cons (.skip (.refl _)))))) ?_
          refine ret4_ rfl rfl rfl rfl rfl ?_
          exact ⟨A5, c5, A6, c6, rfl, rfl⟩
theorem tmG_len : ∀ (k was : Nat) (s : Cs), (tmG k was s).1.length ≤ k
  | 0, _, s => Nat.le_refl _
  | k + 1, was, s => by
    rw [tmG]
    split
    · have := tmG_len k (addU was (zag s.num)) s.num'; simp; omega
    · simp
theorem rcR_len (n : Int) (l : List UInt8) : (rcR n l).1.length ≤ 20000 := by
  unfold rcR
  split
  · simp
  · split
    · simp
    · have := tmG_len n.toNat 0 ⟨l, 0, 0⟩
      unfold rcT; simp only; omega
end Go.Proofs.Ytlbdhdocagahpaa
