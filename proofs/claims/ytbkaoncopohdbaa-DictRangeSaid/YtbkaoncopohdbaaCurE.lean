/-
  The program's cursor, by frames: Int, Take, Byte, Text, New. Conditions: the cursor's bytes are shorter than 2^40.
-/
import Derived.Test.YtbkaoncopohdbaaCurD
namespace Go.Proofs.Ytbkaoncopohdbaa
open Go.RowKit
set_option linter.unusedVariables false
set_option maxRecDepth 20000
variable {B : Nat} {w0 : World} {F L0 : List Ch} {A : Option Addr} {n c g h3 h5 : Nat} {s : Cs} {C0 : Ch}
theorem swp3 {a b c : Ch} {L : List Ch} : (a :: b :: c :: L).Perm (c :: a :: b :: L) := ((List.Perm.swap c b L).cons a).trans (.swap c a _)
def lim3 (x k : Nat) (er most : Int) : Nat × Nat × Int := if er ≠ 0 then (0, 0, er) else if most < 0 ∨ most < x then (0, 0, 6) else (x, k, 0)
theorem lim3_a {x k : Nat} {er most : Int} (h : ¬ er = 0) : lim3 x k er most = (0, 0, er) := if_pos h
theorem lim3_b {x k : Nat} {er most : Int} (h : ¬ ¬ er = 0) (h2 : most < 0 ∨ most < x) : lim3 x k er most = (0, 0, 6) := by unfold lim3; rw [if_neg h, if_pos h2]
theorem lim3_c {x k : Nat} {er most : Int} (h : ¬ ¬ er = 0) (h2 : ¬ (most < 0 ∨ most < x)) : lim3 x k er most = (x, k, 0) := by unfold lim3; rw [if_neg h, if_neg h2]
theorem limited_d {l : List UInt8} (hb : Bor B w0 L0 1 (.slice A n c) n (bv l)) (hn : n ≤ 1099511627776) {most : Int} (hm1 : -9223372036854775808 ≤ most) (hm2 : most ≤ 9223372036854775807) :
    Does Try.prog B w0 53 [.slice A n c, .int .i64 most] L0 (fun r L => r = .tuple #[.int .i64 (limS l most).1, .int .i64 (limS l most).2.1, .int .i64 (limS l most).2.2] ∧ L = L0) := by
  have e : limS l most = lim3 (scanS l).1 (scanS l).2.1 (scanS l).2.2 most := rfl
  have hs := scan_d hb hn
  have hf := (scanS_facts l).1
  rw [e]
  clear e
  generalize (scanS l).1 = x at *
  generalize (scanS l).2.1 = k at *
  generalize (scanS l).2.2 = er at *
  refine fn_walk Try.func53 30 rfl rfl rfl [(0, .slice A n c), (1, .int .i64 most)] ⟨⟨rfl, rfl⟩, ⟨rfl, rfl⟩, trivial⟩ ?_
  refine vc_seq ?_
  refine vc_region ?_
  refine vl_det (det_assign rfl) rfl ?_
  refine vl_det (det_assign rfl) rfl ?_
  refine vl_det (det_assign rfl) rfl ?_
  refine vl_end [(0, _), (1, _)] ⟨rfl, rfl, trivial⟩ ?_
  refine then_next ?_
  refine vc_seq ?_
  refine vc_region ?_
  refine vl_det (det_move rfl) rfl ?_
  refine vl_call co59 rfl (hs) rfl ?_
  rintro _ _ ⟨rfl, hLL⟩
  obtain rfl := hLL.symm
  refine vl_det (det_move rfl) rfl ?_
  refine vl_det (det_extract rfl rfl) rfl ?_
  refine vl_det (det_extract rfl rfl) rfl ?_
  refine vl_det (det_extract rfl rfl) rfl ?_
  refine vl_det (det_assign rfl) rfl ?_
  refine vl_det (det_assign rfl) rfl ?_
  refine vl_det (det_assign rfl) rfl ?_
  refine vl_end [(1, _), (7, _), (8, _), (9, _)] ⟨rfl, rfl, rfl, rfl, trivial⟩ ?_
  refine then_next ?_
  refine vc_seq ?_
  refine vc_seq ?_
  refine vc_region ?_
  refine vl_det (det_move rfl) rfl ?_
  refine vl_det (det_neq rfl rfl) rfl ?_
  refine vl_end [(1, _), (7, _), (8, _), (9, _), (17, _)] ⟨rfl, rfl, rfl, rfl, rfl, trivial⟩ ?_
  refine then_next ?_
  refine vc_decideU rfl (fun h17 => ?_) (fun h17 => ?_)
  · skip
    refine vc_seq ?_
    refine vc_region ?_
    refine vl_det (det_move rfl) rfl ?_
    refine vl_det (det_assign rfl) rfl ?_
    refine vl_det (det_assign rfl) rfl ?_
    refine vl_det (det_assign rfl) rfl ?_
    refine vl_end [(4, _), (5, _), (6, _)] ⟨rfl, rfl, rfl, trivial⟩ ?_
    refine then_next ?_
    refine vc_ret ?_
    refine then_ret ?_
    refine ret3_ rfl rfl rfl rfl ?_
    refine ⟨?_, rfl⟩
    rw [lim3_a h17]
    try rfl
  · skip
    refine vc_skip ?_
    refine then_next ?_
    refine vc_seq ?_
    refine vc_seq ?_
    refine vc_region ?_
    refine vl_cut 8 26 [(7, _), (8, _)] (most < 0 ∨ most < (x : Int)) ⟨rfl, rfl, trivial⟩ ?_ ?_
    · skip
      refine vl_det (det_move rfl) rfl ?_
      refine vl_det (det_lss rfl rfl) rfl ?_
      refine vl_det (det_move rfl) rfl ?_
      refine vl_guardn rfl rfl rfl (fun h21 => ?_) (fun h21 => ?_)
      · skip
        refine vl_det (det_move rfl) rfl ?_
        refine vl_guard_t rfl rfl ?_
        refine vl_det (det_move rfl) rfl ?_
        refine vl_guard_t rfl rfl ?_
        refine vl_det (det_conv Try.underlying3 Try.underlying54 rfl (w_u64 (by omega) (by omega))) rfl ?_
        refine vl_guard_t rfl rfl ?_
        refine vl_det (det_gtr rfl rfl) rfl ?_
        refine vl_det (det_pick_f rfl rfl) rfl ?_
        exact vl_cut_end ⟨rfl, rfl, trivial⟩ (by first | rfl | exact bool_to_t (by first | omega | simp_all) | exact bool_to_f (by first | omega | simp_all) | exact bool_to (by first | omega | simp_all) | exact bool_to_b (by first | omega | simp_all))
      · skip
        refine vl_guard_f rfl rfl rfl rfl ?_
        refine vl_guard_f rfl rfl rfl rfl ?_
        refine vl_guard_f rfl rfl rfl rfl ?_
        refine vl_det (det_pick_t rfl rfl) rfl ?_
        exact vl_cut_end ⟨rfl, rfl, trivial⟩ (by first | rfl | exact bool_to_t (by first | omega | simp_all) | exact bool_to_f (by first | omega | simp_all) | exact bool_to (by first | omega | simp_all) | exact bool_to_b (by first | omega | simp_all))
    · skip
      refine vl_end [(7, _), (8, _), (26, _)] ⟨rfl, rfl, rfl, trivial⟩ ?_
      refine then_next ?_
      refine vc_decideU rfl (fun h26 => ?_) (fun h26 => ?_)
      · skip
        refine vc_seq ?_
        refine vc_region ?_
        refine vl_det (det_assign rfl) rfl ?_
        refine vl_det (det_assign rfl) rfl ?_
        refine vl_det (det_assign rfl) rfl ?_
        refine vl_end [(4, _), (5, _), (6, _)] ⟨rfl, rfl, rfl, trivial⟩ ?_
        refine then_next ?_
        refine vc_ret ?_
        refine then_ret ?_
        refine ret3_ rfl rfl rfl rfl ?_
        refine ⟨?_, rfl⟩
        rw [lim3_b h17 h26]
        try rfl
      · skip
        refine vc_skip ?_
        refine then_next ?_
        refine vc_seq ?_
        refine vc_region ?_
        refine vl_det (det_move rfl) rfl ?_
        refine vl_det (det_conv Try.underlying54 Try.underlying3 rfl (w_i64 (by omega) (by omega))) rfl ?_
        refine vl_det (det_move rfl) rfl ?_
        refine vl_det (det_assign rfl) rfl ?_
        refine vl_det (det_assign rfl) rfl ?_
        refine vl_det (det_assign rfl) rfl ?_
        refine vl_end [(4, _), (5, _), (6, _)] ⟨rfl, rfl, rfl, trivial⟩ ?_
        refine then_next ?_
        refine vc_ret ?_
        refine ret3_ rfl rfl rfl rfl ?_
        refine ⟨?_, rfl⟩
        rw [lim3_c h17 h26]
        try rfl
theorem intstep_d {x0 : Value} {l : List UInt8} {most : Int} (hb : Bor B w0 (.blk h5 3 [x0] :: .blk h3 3 [.int .i64 most] :: F) 1 (.slice A n c) n (bv l)) (hn : n ≤ 1099511627776) (hm1 : -9223372036854775808 ≤ most) (hm2 : most ≤ 9223372036854775807) :
    Does Try.prog B w0 52 [.slice A n c, .pointer (some ⟨h3, 0, none⟩), .pointer (some ⟨h5, 0, none⟩)] (C0 :: .blk h5 3 [x0] :: .blk h3 3 [.int .i64 most] :: F) (fun r L => r = .tuple #[.int .i64 (limS l most).2.1, .int .i64 (limS l most).2.2] ∧ L = C0 :: .blk h5 3 [.int .i64 (limS l most).1] :: .blk h3 3 [.int .i64 most] :: F) := by
  refine fn_walk Try.func52 15 rfl rfl rfl [(0, .slice A n c), (1, .pointer (some ⟨h3, 0, none⟩)), (2, .pointer (some ⟨h5, 0, none⟩))] ⟨⟨rfl, rfl⟩, ⟨rfl, rfl⟩, ⟨rfl, rfl⟩, trivial⟩ ?_
  refine vc_seq ?_
  refine vc_region ?_
  refine vl_det (det_assign rfl) rfl ?_
  refine vl_det (det_assign rfl) rfl ?_
  refine vl_end [(0, _), (1, _), (2, _)] ⟨rfl, rfl, rfl, trivial⟩ ?_
  refine then_next ?_
  refine vc_seq ?_
  refine vc_region ?_
  refine vl_det (det_move rfl) rfl ?_
  refine vl_det (det_load_blk (by kernel_rfl) rfl (by repeat (first | exact .hd | apply Sel.tl)) rfl) rfl ?_
  refine vl_call co53 rfl (limited_d (by first | (exact Bor.own (by repeat (first | exact List.Mem.head _ | apply List.Mem.tail))) | (repeat (first | assumption | apply Bor.cons))) hn hm1 hm2) rfl ?_
  rintro _ _ ⟨rfl, hLL⟩
  obtain rfl := hLL.symm
  refine vl_det (det_move rfl) rfl ?_
  refine vl_det (det_extract rfl rfl) rfl ?_
  refine vl_det (det_extract rfl rfl) rfl ?_
  refine vl_det (det_extract rfl rfl) rfl ?_
  refine vl_eff0 (eff_store (by kernel_rfl) rfl rfl rfl (by repeat (first | exact .hd | apply Sel.tl)) (by simp)) ?_
  rintro _ _ rfl
  refine vl_det (det_assign rfl) rfl ?_
  refine vl_det (det_assign rfl) rfl ?_
  refine vl_end [(4, _), (5, _)] ⟨rfl, rfl, trivial⟩ ?_
  refine then_next ?_
  refine vc_seq ?_
  refine vc_region ?_
  refine vl_det (det_move rfl) rfl ?_
  refine vl_det (det_move rfl) rfl ?_
  refine vl_det (det_assign rfl) rfl ?_
  refine vl_det (det_assign rfl) rfl ?_
  refine vl_end [(4, _), (5, _)] ⟨rfl, rfl, trivial⟩ ?_
  refine then_next ?_
  refine vc_ret ?_
  refine ret2 rfl rfl rfl ?_
  exact ⟨rfl, rfl⟩
theorem cint_d (ho : CsOk s) (hb : Bor B w0 F 1 (.slice A s.b.length c) s.b.length (bv s.b)) {most : Int} (hm1 : -9223372036854775808 ≤ most) (hm2 : most ≤ 9223372036854775807) :
    Does Try.prog B w0 37 [.pointer (some ⟨g, 0, none⟩), .int .i64 most] (Cv g A c s :: F) (fun r L => r = .int .i64 (s.int most) ∧ L = Cv g A c (s.int' most) :: F) := by
  by_cases h0 : s.e = 0
  · have hkb := (limS_facts s.rest most hm2).2.1
    rw [ho.rest.1] at hkb
    have hlb := ho.rest.2
    refine fn_walk Try.func37 13 rfl rfl rfl [(0, .pointer (some ⟨g, 0, none⟩)), (1, .int .i64 most)] ⟨⟨rfl, rfl⟩, ⟨rfl, rfl⟩, trivial⟩ ?_
    refine vc_seq ?_
    refine vc_region ?_
    refine vl_eff (eff_box rfl rfl) rfl ?_
    rintro _ _ ⟨g3, rfl, rfl⟩
    refine vl_det (det_assign rfl) rfl ?_
    refine vl_end [(0, _), (3, _)] ⟨rfl, rfl, trivial⟩ ?_
    refine then_next ?_
    refine vc_seq ?_
    refine vc_region ?_
    refine vl_eff (eff_alloc_z (zv := (.int .i64 0)) (by kernel_rfl) rfl) rfl ?_
    rintro _ _ ⟨g5, rfl, rfl⟩
    refine vl_end [(0, _), (3, _), (5, _)] ⟨rfl, rfl, rfl, trivial⟩ ?_
    refine then_next ?_
    refine vc_seq ?_
    refine vc_region ?_
    refine vl_det (det_move rfl) rfl ?_
    refine vl_det (det_makeFunc rfl rfl) rfl ?_
    refine vl_call co51 rfl ((cread_ok (F := .blk g5 3 [.int .i64 0] :: .blk g3 3 [.int .i64 most] :: F) ho (Bor.cons (Bor.cons hb)) h0 (caps := [.pointer (some ⟨g3, 0, none⟩), .pointer (some ⟨g5, 0, none⟩)]) (R' := fun F' => F' = .blk g5 3 [.int .i64 (limS s.rest most).1] :: .blk g3 3 [.int .i64 most] :: F) (k := (limS s.rest most).2.1) (er := (limS s.rest most).2.2) co52 (by omega) (fun A' c' hbr => (intstep_d hbr (by omega) hm1 hm2).mono fun r L ⟨h1, h2⟩ => ⟨h1, _, rfl, h2⟩)).perm swp3) rfl ?_
    rintro _ _ ⟨rfl, _, hLL, rfl⟩
    obtain rfl := hLL.symm
    refine vl_det (det_assign rfl) rfl ?_
    refine vl_end [(5, _), (6, _)] ⟨rfl, rfl, trivial⟩ ?_
    refine then_next ?_
    refine vc_seq ?_
    refine vc_seq ?_
    refine vc_region ?_
    refine vl_det (det_move rfl) rfl ?_
    refine vl_det (det_notd rfl) rfl ?_
    refine vl_end [(5, _), (11, _)] ⟨rfl, rfl, trivial⟩ ?_
    refine then_next ?_
    refine vc_decideU rfl (fun h11 => ?_) (fun h11 => ?_)
    · skip
      refine vc_seq ?_
      refine vc_region ?_
      refine vl_det (det_assign rfl) rfl ?_
      refine vl_end [(4, _)] ⟨rfl, trivial⟩ ?_
      refine then_next ?_
      refine vc_ret ?_
      refine then_ret ?_
      refine ret_wk (L' := Cv g A c (s.int' most) :: F) (.cons (.skip (.skip (.refl _)))) ?_
      refine ret1 rfl rfl ?_
      exact ⟨by simp [Cs.int, h0, (limS_err (show (limS s.rest most).2.2 ≠ 0 from h11)).1], rfl⟩
    · skip
      refine vc_skip ?_
      refine then_next ?_
      refine vc_seq ?_
      refine vc_region ?_
      refine vl_det (det_load_blk (by kernel_rfl) rfl (by repeat (first | exact .hd | apply Sel.tl)) rfl) rfl ?_
      refine vl_det (det_assign rfl) rfl ?_
      refine vl_end [(4, _)] ⟨rfl, trivial⟩ ?_
      refine then_next ?_
      refine vc_ret ?_
      refine ret_wk (L' := Cv g A c (s.int' most) :: F) (.cons (.skip (.skip (.refl _)))) ?_
      refine ret1 rfl rfl ?_
      exact ⟨by simp [Cs.int, h0], rfl⟩
  · have e1 : s.int' most = s := by simp [Cs.int', Cs.moved, h0]
    have e2 : s.int most = 0 := by simp [Cs.int, h0]
    rw [e1, e2]
    refine fn_walk Try.func37 13 rfl rfl rfl [(0, .pointer (some ⟨g, 0, none⟩)), (1, .int .i64 most)] ⟨⟨rfl, rfl⟩, ⟨rfl, rfl⟩, trivial⟩ ?_
    refine vc_seq ?_
    refine vc_region ?_
    refine vl_eff (eff_box rfl rfl) rfl ?_
    rintro _ _ ⟨g3, rfl, rfl⟩
    refine vl_det (det_assign rfl) rfl ?_
    refine vl_end [(0, _), (3, _)] ⟨rfl, rfl, trivial⟩ ?_
    refine then_next ?_
    refine vc_seq ?_
    refine vc_region ?_
    refine vl_eff (eff_alloc_z (zv := (.int .i64 0)) (by kernel_rfl) rfl) rfl ?_
    rintro _ _ ⟨g5, rfl, rfl⟩
    refine vl_end [(0, _), (3, _), (5, _)] ⟨rfl, rfl, rfl, trivial⟩ ?_
    refine then_next ?_
    refine vc_seq ?_
    refine vc_region ?_
    refine vl_det (det_move rfl) rfl ?_
    refine vl_det (det_makeFunc rfl rfl) rfl ?_
    refine vl_call co51 rfl ((cread_bad h0).perm swp3) rfl ?_
    rintro _ _ ⟨rfl, hLL⟩
    obtain rfl := hLL.symm
    refine vl_det (det_assign rfl) rfl ?_
    refine vl_end [(5, _), (6, _)] ⟨rfl, rfl, trivial⟩ ?_
    refine then_next ?_
    refine vc_seq ?_
    refine vc_seq ?_
    refine vc_region ?_
    refine vl_det (det_move rfl) rfl ?_
    refine vl_det (det_not_f rfl) rfl ?_
    refine vl_end [(5, _), (11, _)] ⟨rfl, rfl, trivial⟩ ?_
    refine then_next ?_
    refine vc_cond_t rfl ?_
    refine vc_seq ?_
    refine vc_region ?_
    refine vl_det (det_assign rfl) rfl ?_
    refine vl_end [(4, _)] ⟨rfl, trivial⟩ ?_
    refine then_next ?_
    refine vc_ret ?_
    refine then_ret ?_
    refine ret_wk (L' := Cv g A c s :: F) (.cons (.skip (.skip (.refl _)))) ?_
    refine ret1 rfl rfl ?_
    exact ⟨rfl, rfl⟩
/-- a text at the head of bytes, of what is known of its length -/
def tex3 (l : List UInt8) (x k : Nat) (er : Int) : List UInt8 × Nat × Int := if er ≠ 0 then ([], 0, er) else if l.length - k < x then ([], 0, 1) else ((l.drop k).take x, k + x, 0)
theorem tex3_a {l : List UInt8} {x k : Nat} {er : Int} (h : ¬ er = 0) : tex3 l x k er = ([], 0, er) := if_pos h
theorem tex3_b {l : List UInt8} {x k : Nat} {er : Int} (h : ¬ ¬ er = 0) (h2 : l.length - k < x) : tex3 l x k er = ([], 0, 1) := by unfold tex3; rw [if_neg h, if_pos h2]
theorem tex3_c {l : List UInt8} {x k : Nat} {er : Int} (h : ¬ ¬ er = 0) (h2 : ¬ (l.length - k < x)) : tex3 l x k er = ((l.drop k).take x, k + x, 0) := by unfold tex3; rw [if_neg h, if_neg h2]
theorem textstep_d {l : List UInt8} {most : Int} (hb : Bor B w0 (.blk h5 9 [.string ⟨#[]⟩] :: .blk h3 3 [.int .i64 most] :: F) 1 (.slice A n c) n (bv l)) (hn : n ≤ 1099511627776) (hm1 : -9223372036854775808 ≤ most) (hm2 : most ≤ 9223372036854775807) :
    Does Try.prog B w0 63 [.slice A n c, .pointer (some ⟨h3, 0, none⟩), .pointer (some ⟨h5, 0, none⟩)] (C0 :: .blk h5 9 [.string ⟨#[]⟩] :: .blk h3 3 [.int .i64 most] :: F) (fun r L => r = .tuple #[.int .i64 (textS l most).2.1, .int .i64 (textS l most).2.2] ∧ L = C0 :: .blk h5 9 [.string ⟨(textS l most).1.toArray⟩] :: .blk h3 3 [.int .i64 most] :: F) := by
  refine Does.bor (L := C0 :: .blk h5 9 [.string ⟨#[]⟩] :: .blk h3 3 [.int .i64 most] :: F) (Bor.cons hb) fun hc hl => ?_
  simp at hl
  have e : textS l most = tex3 l (limS l most).1 (limS l most).2.1 (limS l most).2.2 := rfl
  have hs := limited_d (B := B) (w0 := w0) (L0 := C0 :: .blk h5 9 [.string ⟨#[]⟩] :: .blk h3 3 [.int .i64 most] :: F) (l := l) (Bor.cons hb) hn hm1 hm2
  have hf := limS_facts l most hm2
  rw [e]
  clear e
  generalize (limS l most).1 = x at *
  generalize (limS l most).2.1 = k at *
  generalize (limS l most).2.2 = er at *
  refine fn_walk Try.func63 37 rfl rfl rfl [(0, .slice A n c), (1, .pointer (some ⟨h3, 0, none⟩)), (2, .pointer (some ⟨h5, 0, none⟩))] ⟨⟨rfl, rfl⟩, ⟨rfl, rfl⟩, ⟨rfl, rfl⟩, trivial⟩ ?_
  refine vc_seq ?_
  refine vc_region ?_
  refine vl_det (det_assign rfl) rfl ?_
  refine vl_det (det_assign rfl) rfl ?_
  refine vl_end [(0, _), (1, _), (2, _)] ⟨rfl, rfl, rfl, trivial⟩ ?_
  refine then_next ?_
  refine vc_seq ?_
  refine vc_region ?_
  refine vl_det (det_move rfl) rfl ?_
  refine vl_det (det_load_blk (by kernel_rfl) rfl (by repeat (first | exact .hd | apply Sel.tl)) rfl) rfl ?_
  refine vl_call co53 rfl (hs) rfl ?_
  rintro _ _ ⟨rfl, hLL⟩
  obtain rfl := hLL.symm
  refine vl_det (det_move rfl) rfl ?_
  refine vl_det (det_extract rfl rfl) rfl ?_
  refine vl_det (det_extract rfl rfl) rfl ?_
  refine vl_det (det_extract rfl rfl) rfl ?_
  refine vl_det (det_assign rfl) rfl ?_
  refine vl_det (det_assign rfl) rfl ?_
  refine vl_det (det_assign rfl) rfl ?_
  refine vl_end [(0, _), (2, _), (6, _), (7, _), (8, _)] ⟨rfl, rfl, rfl, rfl, rfl, trivial⟩ ?_
  refine then_next ?_
  refine vc_seq ?_
  refine vc_block ?_
  refine vc_seq ?_
  refine vc_region ?_
  refine vl_det (det_move rfl) rfl ?_
  refine vl_det (det_neq rfl rfl) rfl ?_
  refine vl_det (det_assign rfl) rfl ?_
  refine vl_end [(0, _), (2, _), (6, _), (7, _), (8, _), (16, _)] ⟨rfl, rfl, rfl, rfl, rfl, rfl, trivial⟩ ?_
  refine then_next ?_
  refine vc_decideU rfl (fun h16 => ?_) (fun h16 => ?_)
  · skip
    refine vc_seq ?_
    refine vc_region ?_
    refine vl_det (det_move rfl) rfl ?_
    refine vl_det (det_assign rfl) rfl ?_
    refine vl_det (det_assign rfl) rfl ?_
    refine vl_end [(4, _), (5, _)] ⟨rfl, rfl, trivial⟩ ?_
    refine then_next ?_
    refine vc_ret ?_
    refine in_ret ?_
    refine then_ret ?_
    refine ret2 rfl rfl rfl ?_
    refine ⟨?_, ?_⟩
    · rw [tex3_a h16]; try rfl
    · rw [tex3_a h16]; try rfl
  · skip
    refine vc_seq ?_
    refine vc_region ?_
    refine vl_det (det_move rfl) rfl ?_
    refine vl_det (det_move rfl) rfl ?_
    refine vl_det (det_len_sl Try.underlying25 rfl) rfl ?_
    refine vl_det (det_move rfl) rfl ?_
    refine vl_det (det_sub rfl rfl (w_i64 (by omega) (by omega))) rfl ?_
    refine vl_det (det_gtr rfl rfl) rfl ?_
    refine vl_det (det_assign rfl) rfl ?_
    refine vl_end [(0, _), (2, _), (6, _), (7, _), (20, _)] ⟨rfl, rfl, rfl, rfl, rfl, trivial⟩ ?_
    refine then_next ?_
    refine vc_decideU rfl (fun h20 => ?_) (fun h20 => ?_)
    · skip
      refine vc_seq ?_
      refine vc_region ?_
      refine vl_det (det_assign rfl) rfl ?_
      refine vl_det (det_assign rfl) rfl ?_
      refine vl_end [(4, _), (5, _)] ⟨rfl, rfl, trivial⟩ ?_
      refine then_next ?_
      refine vc_ret ?_
      refine in_ret ?_
      refine then_ret ?_
      refine ret2 rfl rfl rfl ?_
      have h20' : l.length - k < x := by omega
      refine ⟨?_, ?_⟩
      · rw [tex3_b h16 h20']; try rfl
      · rw [tex3_b h16 h20']; try rfl
    · skip
      have hbt := (hb.head_ (k := k + x) (by omega)).cut (k := k) (by omega)
      have ebt : ((bv l).take ((k + x) * 1)).drop (k * 1) = bv ((l.drop k).take x) := by rw [Nat.mul_one, Nat.mul_one, bv_take, bv_drop, List.drop_take, Nat.add_sub_cancel_left]
      rw [ebt] at hbt
      refine vc_skip ?_
      refine in_normal ?_
      refine then_next ?_
      refine vc_seq ?_
      refine vc_region ?_
      refine vl_det (det_move rfl) rfl ?_
      refine vl_det (det_move rfl) rfl ?_
      refine vl_det (det_move rfl) rfl ?_
      refine vl_det (det_move rfl) rfl ?_
      refine vl_det (det_add rfl rfl (w_i64 (by omega) (by omega))) rfl ?_
      refine vl_det (det_slice_both (i := k) (j := k + x) (size := 1) Try.underlying25 (by kernel_rfl) rfl rfl rfl rfl rfl (by omega) (by omega)) rfl ?_
      refine vl_det (det_bstr Try.underlying25 Try.underlying5 Try.underlying9 rfl (by first | (exact Bor.own (by repeat (first | exact List.Mem.head _ | apply List.Mem.tail))) | (repeat (first | assumption | apply Bor.cons)))) rfl ?_
      refine vl_eff0 (eff_store (by kernel_rfl) rfl rfl rfl (by repeat (first | exact .hd | apply Sel.tl)) (by simp)) ?_
      rintro _ _ rfl
      refine vl_end [(6, _), (7, _)] ⟨rfl, rfl, trivial⟩ ?_
      refine then_next ?_
      refine vc_seq ?_
      refine vc_region ?_
      refine vl_det (det_move rfl) rfl ?_
      refine vl_det (det_move rfl) rfl ?_
      refine vl_det (det_add rfl rfl (w_i64 (by omega) (by omega))) rfl ?_
      refine vl_det (det_assign rfl) rfl ?_
      refine vl_det (det_assign rfl) rfl ?_
      refine vl_end [(4, _), (5, _)] ⟨rfl, rfl, trivial⟩ ?_
      refine then_next ?_
      refine vc_ret ?_
      refine ret2 rfl rfl rfl ?_
      have h20' : ¬ (l.length - k < x) := by omega
      refine ⟨?_, ?_⟩
      · rw [tex3_c h16 h20']; try rfl
      · rw [tex3_c h16 h20']; try rfl
theorem ctext_d (ho : CsOk s) (hb : Bor B w0 F 1 (.slice A s.b.length c) s.b.length (bv s.b)) {most : Int} (hm1 : -9223372036854775808 ≤ most) (hm2 : most ≤ 9223372036854775807) :
    Does Try.prog B w0 60 [.pointer (some ⟨g, 0, none⟩), .int .i64 most] (Cv g A c s :: F) (fun r L => r = .string ⟨(s.text most).toArray⟩ ∧ L = Cv g A c (s.text' most) :: F) := by
  by_cases h0 : s.e = 0
  · have hkb : (textS s.rest most).2.1 ≤ s.rest.length := by
      by_cases he : (textS s.rest most).2.2 = 0
      · rcases textS_le s.rest most he with h | h <;> omega
      · have : (textS s.rest most).2.1 = 0 := by
          unfold textS at he ⊢
          split
          · rfl
          · rename_i h1
            rw [if_neg h1] at he
            split
            · rfl
            · rename_i h2
              rw [if_neg h2] at he
              exact absurd rfl he
        omega
    rw [ho.rest.1] at hkb
    have hlb := ho.rest.2
    refine fn_walk Try.func60 10 rfl rfl rfl [(0, .pointer (some ⟨g, 0, none⟩)), (1, .int .i64 most)] ⟨⟨rfl, rfl⟩, ⟨rfl, rfl⟩, trivial⟩ ?_
    refine vc_seq ?_
    refine vc_region ?_
    refine vl_eff (eff_box rfl rfl) rfl ?_
    rintro _ _ ⟨g3, rfl, rfl⟩
    refine vl_det (det_assign rfl) rfl ?_
    refine vl_end [(0, _), (3, _)] ⟨rfl, rfl, trivial⟩ ?_
    refine then_next ?_
    refine vc_seq ?_
    refine vc_region ?_
    refine vl_eff (eff_alloc_z (zv := (.string ⟨#[]⟩)) (by kernel_rfl) rfl) rfl ?_
    rintro _ _ ⟨g5, rfl, rfl⟩
    refine vl_eff0 (eff_store (by kernel_rfl) rfl rfl rfl (by repeat (first | exact .hd | apply Sel.tl)) (by simp)) ?_
    rintro _ _ rfl
    refine vl_end [(0, _), (3, _), (5, _)] ⟨rfl, rfl, rfl, trivial⟩ ?_
    refine then_next ?_
    refine vc_seq ?_
    refine vc_region ?_
    refine vl_det (det_move rfl) rfl ?_
    refine vl_det (det_makeFunc rfl rfl) rfl ?_
    refine vl_call co51 rfl ((cread_ok (F := .blk g5 9 [.string ⟨#[]⟩] :: .blk g3 3 [.int .i64 most] :: F) ho (Bor.cons (Bor.cons hb)) h0 (caps := [.pointer (some ⟨g3, 0, none⟩), .pointer (some ⟨g5, 0, none⟩)]) (R' := fun F' => F' = .blk g5 9 [.string ⟨(textS s.rest most).1.toArray⟩] :: .blk g3 3 [.int .i64 most] :: F) (k := (textS s.rest most).2.1) (er := (textS s.rest most).2.2) co63 (by omega) (fun A' c' hbr => (textstep_d hbr (by omega) hm1 hm2).mono fun r L ⟨h1, h2⟩ => ⟨h1, _, rfl, h2⟩)).perm swp3) rfl ?_
    rintro _ _ ⟨rfl, _, hLL, rfl⟩
    obtain rfl := hLL.symm
    refine vl_end [(5, _)] ⟨rfl, trivial⟩ ?_
    refine then_next ?_
    refine vc_seq ?_
    refine vc_region ?_
    refine vl_det (det_load_blk (by kernel_rfl) rfl (by repeat (first | exact .hd | apply Sel.tl)) rfl) rfl ?_
    refine vl_det (det_assign rfl) rfl ?_
    refine vl_end [(4, _)] ⟨rfl, trivial⟩ ?_
    refine then_next ?_
    refine vc_ret ?_
    refine ret_wk (L' := Cv g A c (s.text' most) :: F) (.cons (.skip (.skip (.refl _)))) ?_
    refine ret1 rfl rfl ?_
    exact ⟨by simp [Cs.text, h0], rfl⟩
  · have e1 : s.text' most = s := by simp [Cs.text', Cs.moved, h0]
    have e2 : s.text most = [] := by simp [Cs.text, h0]
    rw [e1, e2]
    refine fn_walk Try.func60 10 rfl rfl rfl [(0, .pointer (some ⟨g, 0, none⟩)), (1, .int .i64 most)] ⟨⟨rfl, rfl⟩, ⟨rfl, rfl⟩, trivial⟩ ?_
    refine vc_seq ?_
    refine vc_region ?_
    refine vl_eff (eff_box rfl rfl) rfl ?_
    rintro _ _ ⟨g3, rfl, rfl⟩
    refine vl_det (det_assign rfl) rfl ?_
    refine vl_end [(0, _), (3, _)] ⟨rfl, rfl, trivial⟩ ?_
    refine then_next ?_
    refine vc_seq ?_
    refine vc_region ?_
    refine vl_eff (eff_alloc_z (zv := (.string ⟨#[]⟩)) (by kernel_rfl) rfl) rfl ?_
    rintro _ _ ⟨g5, rfl, rfl⟩
    refine vl_eff0 (eff_store (by kernel_rfl) rfl rfl rfl (by repeat (first | exact .hd | apply Sel.tl)) (by simp)) ?_
    rintro _ _ rfl
    refine vl_end [(0, _), (3, _), (5, _)] ⟨rfl, rfl, rfl, trivial⟩ ?_
    refine then_next ?_
    refine vc_seq ?_
    refine vc_region ?_
    refine vl_det (det_move rfl) rfl ?_
    refine vl_det (det_makeFunc rfl rfl) rfl ?_
    refine vl_call co51 rfl ((cread_bad h0).perm swp3) rfl ?_
    rintro _ _ ⟨rfl, hLL⟩
    obtain rfl := hLL.symm
    refine vl_end [(5, _)] ⟨rfl, trivial⟩ ?_
    refine then_next ?_
    refine vc_seq ?_
    refine vc_region ?_
    refine vl_det (det_load_blk (by kernel_rfl) rfl (by repeat (first | exact .hd | apply Sel.tl)) rfl) rfl ?_
    refine vl_det (det_assign rfl) rfl ?_
    refine vl_end [(4, _)] ⟨rfl, trivial⟩ ?_
    refine then_next ?_
    refine vc_ret ?_
    refine ret_wk (L' := Cv g A c s :: F) (.cons (.skip (.skip (.refl _)))) ?_
    refine ret1 rfl rfl ?_
    exact ⟨rfl, rfl⟩
def takeT (l : List UInt8) (n : Int) : List UInt8 := if takeErr l n ≠ 0 then [] else l.take n.toNat
def takeK (l : List UInt8) (n : Int) : Nat := if takeErr l n ≠ 0 then 0 else n.toNat
def TakeR (h3 h5 : Nat) (l : List UInt8) (m : Int) (F F' : List Ch) : Prop := ∃ A' c', F' = .own 5 1 A' (takeT l m).length c' (bv (takeT l m)) :: .blk h5 25 [.slice A' (takeT l m).length c'] :: .blk h3 3 [.int .i64 m] :: F
theorem takestep_d {l : List UInt8} {m : Int} (hb : Bor B w0 (.blk h5 25 [.slice none 0 0] :: .blk h3 3 [.int .i64 m] :: F) 1 (.slice A n c) n (bv l)) (hn : n ≤ 1099511627776) (hm1 : -9223372036854775808 ≤ m) (hm2 : m ≤ 9223372036854775807) :
    Does Try.prog B w0 54 [.slice A n c, .pointer (some ⟨h3, 0, none⟩), .pointer (some ⟨h5, 0, none⟩)] (C0 :: .blk h5 25 [.slice none 0 0] :: .blk h3 3 [.int .i64 m] :: F) (fun r L => r = .tuple #[.int .i64 (takeK l m), .int .i64 (takeErr l m)] ∧ ∃ F', TakeR h3 h5 l m F F' ∧ L = C0 :: F') := by
  refine Does.bor (L := C0 :: .blk h5 25 [.slice none 0 0] :: .blk h3 3 [.int .i64 m] :: F) (Bor.cons hb) fun hc hl => ?_
  simp at hl
  refine fn_walk Try.func54 17 rfl rfl rfl [(0, .slice A n c), (1, .pointer (some ⟨h3, 0, none⟩)), (2, .pointer (some ⟨h5, 0, none⟩))] ⟨⟨rfl, rfl⟩, ⟨rfl, rfl⟩, ⟨rfl, rfl⟩, trivial⟩ ?_
  refine vc_seq ?_
  refine vc_region ?_
  refine vl_det (det_assign rfl) rfl ?_
  refine vl_det (det_assign rfl) rfl ?_
  refine vl_end [(0, _), (1, _), (2, _)] ⟨rfl, rfl, rfl, trivial⟩ ?_
  refine then_next ?_
  refine vc_seq ?_
  refine vc_seq ?_
  refine vc_region ?_
  refine vl_det (det_load_blk (by kernel_rfl) rfl (by repeat (first | exact .hd | apply Sel.tl)) rfl) rfl ?_
  refine vl_det (det_lss rfl rfl) rfl ?_
  refine vl_end [(0, _), (1, _), (2, _), (7, _)] ⟨rfl, rfl, rfl, rfl, trivial⟩ ?_
  refine then_next ?_
  refine vc_decideU rfl (fun h7 => ?_) (fun h7 => ?_)
  · skip
    refine vc_seq ?_
    refine vc_region ?_
    refine vl_det (det_assign rfl) rfl ?_
    refine vl_det (det_assign rfl) rfl ?_
    refine vl_end [(4, _), (5, _)] ⟨rfl, rfl, trivial⟩ ?_
    refine then_next ?_
    refine vc_ret ?_
    refine then_ret ?_
    have e1 : takeErr l m = 13 := if_pos h7
    have e2 : takeT l m = [] := by simp [takeT, e1]
    have e3 : takeK l m = 0 := by simp [takeK, e1]
    refine ret_nil_row 5 1 none ?_
    refine ret_wk (L' := C0 :: .own 5 1 none 0 0 [] :: .blk h5 25 [.slice none 0 0] :: .blk h3 3 [.int .i64 m] :: F) (.swap (.refl _)) ?_
    refine ret2 rfl rfl rfl ?_
    exact ⟨by rw [e1, e3]; try rfl, _, ⟨none, 0, by rw [e2]; try rfl⟩, rfl⟩
  · skip
    obtain ⟨q, rfl⟩ := Int.eq_ofNat_of_zero_le (show 0 ≤ m by omega)
    refine vc_skip ?_
    refine then_next ?_
    refine vc_seq ?_
    refine vc_seq ?_
    refine vc_region ?_
    refine vl_det (det_load_blk (by kernel_rfl) rfl (by repeat (first | exact .hd | apply Sel.tl)) rfl) rfl ?_
    refine vl_det (det_move rfl) rfl ?_
    refine vl_det (det_len_sl Try.underlying25 rfl) rfl ?_
    refine vl_det (det_gtr rfl rfl) rfl ?_
    refine vl_end [(0, _), (1, _), (2, _), (11, _)] ⟨rfl, rfl, rfl, rfl, trivial⟩ ?_
    refine then_next ?_
    refine vc_decideU rfl (fun h11 => ?_) (fun h11 => ?_)
    · skip
      refine vc_seq ?_
      refine vc_region ?_
      refine vl_det (det_assign rfl) rfl ?_
      refine vl_det (det_assign rfl) rfl ?_
      refine vl_end [(4, _), (5, _)] ⟨rfl, rfl, trivial⟩ ?_
      refine then_next ?_
      refine vc_ret ?_
      refine then_ret ?_
      have e1 : takeErr l q = 1 := by unfold takeErr; rw [if_neg h7, if_pos (by omega)]
      have e2 : takeT l q = [] := by simp [takeT, e1]
      have e3 : takeK l q = 0 := by simp [takeK, e1]
      refine ret_nil_row 5 1 none ?_
      refine ret_wk (L' := C0 :: .own 5 1 none 0 0 [] :: .blk h5 25 [.slice none 0 0] :: .blk h3 3 [.int .i64 q] :: F) (.swap (.refl _)) ?_
      refine ret2 rfl rfl rfl ?_
      exact ⟨by rw [e1, e3]; try rfl, _, ⟨none, 0, by rw [e2]; try rfl⟩, rfl⟩
    · skip
      have hbt := hb.head_ (k := q) (by omega)
      have ebt : (bv l).take (q * 1) = bv (l.take q) := by rw [Nat.mul_one, bv_take]
      rw [ebt] at hbt
      refine vc_skip ?_
      refine then_next ?_
      refine vc_seq ?_
      refine vc_region ?_
      refine vl_det (det_move rfl) rfl ?_
      refine vl_det (det_load_blk (by kernel_rfl) rfl (by repeat (first | exact .hd | apply Sel.tl)) rfl) rfl ?_
      refine vl_det (det_slice_hi (i := q) (size := 1) Try.underlying25 (by kernel_rfl) rfl rfl rfl (by omega)) rfl ?_
      refine vl_call co50 rfl (clone_d (l.take q) (by first | (exact Bor.own (by repeat (first | exact List.Mem.head _ | apply List.Mem.tail))) | (repeat (first | assumption | apply Bor.cons))) (by omega)) rfl ?_
      rintro _ _ ⟨A15, c15, rfl, hLL⟩
      obtain rfl := hLL.symm
      refine vl_eff0 (eff_store (by kernel_rfl) rfl rfl rfl (by repeat (first | exact .hd | apply Sel.tl)) (by simp)) ?_
      rintro _ _ rfl
      refine vl_end [(1, _)] ⟨rfl, trivial⟩ ?_
      refine then_next ?_
      refine vc_seq ?_
      refine vc_region ?_
      refine vl_det (det_load_blk (by kernel_rfl) rfl (by repeat (first | exact .hd | apply Sel.tl)) rfl) rfl ?_
      refine vl_det (det_assign rfl) rfl ?_
      refine vl_det (det_assign rfl) rfl ?_
      refine vl_end [(4, _), (5, _)] ⟨rfl, rfl, trivial⟩ ?_
      refine then_next ?_
      refine vc_ret ?_
      have e1 : takeErr l q = 0 := by unfold takeErr; rw [if_neg h7, if_neg (by omega)]
      have e2 : takeT l q = l.take q := by simp [takeT, e1]
      have e3 : takeK l q = q := by simp [takeK, e1]
      have e4 : (takeT l q).length = q := by rw [e2, List.length_take]; omega
      refine ret_wk (L' := C0 :: .own 5 1 A15 (takeT l q).length c15 (bv (takeT l q)) :: .blk h5 25 [.slice A15 (takeT l q).length c15] :: .blk h3 3 [.int .i64 q] :: F) (by rw [e4, e2]; exact .swap (.refl _)) ?_
      refine ret2 rfl rfl rfl ?_
      exact ⟨by rw [e1, e3], _, ⟨A15, c15, rfl⟩, rfl⟩
theorem takeK_le (l : List UInt8) (n : Int) : takeK l n ≤ l.length := by
  unfold takeK
  split
  · omega
  · rename_i h
    exact (takeErr_le (by simpa using h)).2
theorem take_of {s : Cs} {n : Int} (h0 : s.e = 0) : s.take n = takeT s.rest n := by simp [Cs.take, takeT, h0]
theorem take'_of {s : Cs} {n : Int} : s.take' n = s.moved (takeK s.rest n) (takeErr s.rest n) := by
  unfold Cs.take' Cs.moved takeK
  split
  · rfl
  · split
    · rfl
    · rfl
theorem ctake_d (ho : CsOk s) (hb : Bor B w0 F 1 (.slice A s.b.length c) s.b.length (bv s.b)) {m : Int} (hm1 : -9223372036854775808 ≤ m) (hm2 : m ≤ 9223372036854775807) :
    Does Try.prog B w0 39 [.pointer (some ⟨g, 0, none⟩), .int .i64 m] (Cv g A c s :: F) (fun r L => ∃ A' c', r = .slice A' (s.take m).length c' ∧ L = Cv g A c (s.take' m) :: .own 5 1 A' (s.take m).length c' (bv (s.take m)) :: F) := by
  by_cases h0 : s.e = 0
  · have hkb := takeK_le s.rest m
    rw [ho.rest.1] at hkb
    have hlb := ho.rest.2
    rw [take_of h0, take'_of]
    refine fn_walk Try.func39 10 rfl rfl rfl [(0, .pointer (some ⟨g, 0, none⟩)), (1, .int .i64 m)] ⟨⟨rfl, rfl⟩, ⟨rfl, rfl⟩, trivial⟩ ?_
    refine vc_seq ?_
    refine vc_region ?_
    refine vl_eff (eff_box rfl rfl) rfl ?_
    rintro _ _ ⟨g3, rfl, rfl⟩
    refine vl_det (det_assign rfl) rfl ?_
    refine vl_end [(0, _), (3, _)] ⟨rfl, rfl, trivial⟩ ?_
    refine then_next ?_
    refine vc_seq ?_
    refine vc_region ?_
    refine vl_eff (eff_alloc_z (zv := (.slice none 0 0)) (by kernel_rfl) rfl) rfl ?_
    rintro _ _ ⟨g5, rfl, rfl⟩
    refine vl_end [(0, _), (3, _), (5, _)] ⟨rfl, rfl, rfl, trivial⟩ ?_
    refine then_next ?_
    refine vc_seq ?_
    refine vc_region ?_
    refine vl_det (det_move rfl) rfl ?_
    refine vl_det (det_makeFunc rfl rfl) rfl ?_
    refine vl_call co51 rfl ((cread_ok (F := .blk g5 25 [.slice none 0 0] :: .blk g3 3 [.int .i64 m] :: F) ho (Bor.cons (Bor.cons hb)) h0 (caps := [.pointer (some ⟨g3, 0, none⟩), .pointer (some ⟨g5, 0, none⟩)]) (R' := TakeR g3 g5 s.rest m F) (k := takeK s.rest m) (er := takeErr s.rest m) co54 (by omega) (fun A' c' hbr => takestep_d hbr (by omega) hm1 hm2)).perm swp3) rfl ?_
    rintro _ _ ⟨rfl, _, ⟨A8, c8, hLL⟩, rfl⟩
    obtain rfl := hLL.symm
    refine vl_end [(5, _)] ⟨rfl, trivial⟩ ?_
    refine then_next ?_
    refine vc_seq ?_
    refine vc_region ?_
    refine vl_det (det_load_blk (by kernel_rfl) rfl (by repeat (first | exact .hd | apply Sel.tl)) rfl) rfl ?_
    refine vl_det (det_assign rfl) rfl ?_
    refine vl_end [(4, _)] ⟨rfl, trivial⟩ ?_
    refine then_next ?_
    refine vc_ret ?_
    refine ret_wk (L' := Cv g A c (s.moved (takeK s.rest m) (takeErr s.rest m)) :: .own 5 1 A8 (takeT s.rest m).length c8 (bv (takeT s.rest m)) :: F) (.cons (.cons (.skip (.skip (.refl _))))) ?_
    refine ret1 rfl rfl ?_
    exact ⟨A8, c8, rfl, rfl⟩
  · have e1 : s.take' m = s := by simp [Cs.take', Cs.moved, h0]
    have e2 : s.take m = [] := by simp [Cs.take, h0]
    rw [e1, e2]
    refine fn_walk Try.func39 10 rfl rfl rfl [(0, .pointer (some ⟨g, 0, none⟩)), (1, .int .i64 m)] ⟨⟨rfl, rfl⟩, ⟨rfl, rfl⟩, trivial⟩ ?_
    refine vc_seq ?_
    refine vc_region ?_
    refine vl_eff (eff_box rfl rfl) rfl ?_
    rintro _ _ ⟨g3, rfl, rfl⟩
    refine vl_det (det_assign rfl) rfl ?_
    refine vl_end [(0, _), (3, _)] ⟨rfl, rfl, trivial⟩ ?_
    refine then_next ?_
    refine vc_seq ?_
    refine vc_region ?_
    refine vl_eff (eff_alloc_z (zv := (.slice none 0 0)) (by kernel_rfl) rfl) rfl ?_
    rintro _ _ ⟨g5, rfl, rfl⟩
    refine vl_end [(0, _), (3, _), (5, _)] ⟨rfl, rfl, rfl, trivial⟩ ?_
    refine then_next ?_
    refine vc_seq ?_
    refine vc_region ?_
    refine vl_det (det_move rfl) rfl ?_
    refine vl_det (det_makeFunc rfl rfl) rfl ?_
    refine vl_call co51 rfl ((cread_bad h0).perm swp3) rfl ?_
    rintro _ _ ⟨rfl, hLL⟩
    obtain rfl := hLL.symm
    refine vl_end [(5, _)] ⟨rfl, trivial⟩ ?_
    refine then_next ?_
    refine vc_seq ?_
    refine vc_region ?_
    refine vl_det (det_load_blk (by kernel_rfl) rfl (by repeat (first | exact .hd | apply Sel.tl)) rfl) rfl ?_
    refine vl_det (det_assign rfl) rfl ?_
    refine vl_end [(4, _)] ⟨rfl, trivial⟩ ?_
    refine then_next ?_
    refine vc_ret ?_
    refine ret_nil_row 5 1 none ?_
    refine ret_wk (L' := Cv g A c s :: .own 5 1 none 0 0 [] :: F) (.swap (.cons (.swap (.skip (.swap (.skip (.refl _))))))) ?_
    refine ret1 rfl rfl ?_
    exact ⟨none, 0, rfl, rfl⟩
theorem take1_len (s : Cs) : (s.take 1).length ≤ 1 := by
  unfold Cs.take
  split
  · simp
  · split
    · simp
    · simp only [List.length_take]; exact Nat.min_le_left _ _
theorem cnew_d {l : List UInt8} (hb : Bor B w0 F 1 (.slice A l.length c) l.length (bv l)) (hl : l.length ≤ 1099511627776) :
    Does Try.prog B w0 36 [.slice A l.length c] F (fun r L => ∃ g A' c', r = .pointer (some ⟨g, 0, none⟩) ∧ L = Cv g A' c' ⟨l, 0, 0⟩ :: .own 5 1 A' l.length c' (bv l) :: F) := by
  refine fn_walk Try.func36 8 rfl rfl rfl [(0, .slice A l.length c)] ⟨⟨rfl, rfl⟩, trivial⟩ ?_
  refine vc_seq ?_
  refine vc_region ?_
  refine vl_det (det_assign rfl) rfl ?_
  refine vl_end [(0, _)] ⟨rfl, trivial⟩ ?_
  refine then_next ?_
  refine vc_seq ?_
  refine vc_region ?_
  refine vl_det (det_move rfl) rfl ?_
  refine vl_call co50 rfl (clone_d l hb hl) rfl ?_
  rintro _ _ ⟨A4, c4, rfl, hLL⟩
  obtain rfl := hLL.symm
  refine vl_det (det_buildp [(0, _)] [.slice none 0 0, .int .i64 0] [0] [_, _] rfl rfl (by kernel_rfl)) rfl ?_
  refine vl_det (det_buildp [(0, _)] [.slice none 0 0, .int .i64 0, .int .i64 0] [0] [_, _, _] rfl rfl (by kernel_rfl)) rfl ?_
  refine vl_eff (eff_box rfl rfl) rfl ?_
  rintro _ _ ⟨g7, rfl, rfl⟩
  refine vl_det (det_assign rfl) rfl ?_
  refine vl_end [(2, _)] ⟨rfl, trivial⟩ ?_
  refine then_next ?_
  refine vc_ret ?_
  refine ret1 rfl rfl ?_
  exact ⟨g7, A4, c4, rfl, rfl⟩
end Go.Proofs.Ytbkaoncopohdbaa
