/-
  Texts of one proof, joined: part 9. No condition.
-/
import Derived.Test.YtpamjobiohbibaaGreatGb8
namespace Go.Proofs.YtpamjobiohbibaaGreat
open Go.RowKit
set_option linter.unusedVariables false
set_option maxRecDepth 20000
variable {B : Nat} {w0 : World} {F : List Ch} {A A1 A2 B1 B2 : Option Addr} {n c c1 c2 b1 b2 g : Nat} {bound size : Int} {T : List Txt} {LL : List LsI}
/-- may an index be? -/
def idxOk (bound : Int) (T : List Txt) (I : List (List Int)) : Prop := (0 ≤ bound ∧ bound ≤ 20000) ∧ T.length = I.length ∧ RisT T ∧ ∀ x ∈ I, x ≠ [] ∧ Ris bound x
instance (bound : Int) (T : List Txt) (I : List (List Int)) : Decidable (idxOk bound T I) := inferInstanceAs (Decidable (_ ∧ _ ∧ _ ∧ _))
def lsB (bound : Int) (I : List (List Int)) : List UInt8 := I.flatMap fun x => (efW bound x).1
def idxB (sz : Nat) (bound : Int) (T : List Txt) (I : List (List Int)) : List UInt8 := dictB sz T ++ lsB bound I
def idxW (size bound : Int) (T : List Txt) (I : List (List Int)) : List UInt8 × Int := if size < 1 ∨ 64 < size ∨ ¬ idxOk bound T I then ([], 13) else (idxB size.toNat bound T I, 0)
theorem idxW_bad {I : List (List Int)} (h : size < 1 ∨ 64 < size ∨ ¬ idxOk bound T I) : idxW size bound T I = ([], 13) := if_pos h
theorem idxW_ok {sz : Nat} {I : List (List Int)} (h1 : 1 ≤ sz) (h2 : sz ≤ 64) (h : idxOk bound T I) : idxW sz bound T I = (idxB sz bound T I, 0) := by
  unfold idxW
  rw [if_neg (by rintro (q | q | q); omega; omega; exact q h), Int.toNat_natCast]
theorem efW_iff {x : List Int} (h0 : 0 ≤ bound) (h1 : bound ≤ 20000) : (efW bound x).2 = 0 ↔ Ris bound x := by
  constructor
  · intro h
    refine Classical.byContradiction fun q => ?_
    rw [efW_bad (.inr (.inr q))] at h
    exact absurd h (by decide)
  · intro h
    obtain ⟨xs, rfl⟩ := h.nats
    obtain ⟨b, rfl⟩ := Int.eq_ofNat_of_zero_le h0
    rw [efW_ok (by rintro (q | q | q); omega; omega; exact q h)]
theorem efW_len {x : List Int} (h0 : 0 ≤ bound) (h1 : bound ≤ 20000) : (efW bound x).1.length ≤ 50011 := by
  by_cases h : Ris bound x
  · obtain ⟨xs, rfl⟩ := h.nats
    obtain ⟨b, rfl⟩ := Int.eq_ofNat_of_zero_le h0
    rw [efW_ok (by rintro (q | q | q); omega; omega; exact q h)]
    exact efB_len ((ris_iff b xs).1 h) (by omega)
  · rw [efW_bad (.inr (.inr h))]; simp
theorem lsB_len (h0 : 0 ≤ bound) (h1 : bound ≤ 20000) : ∀ I : List (List Int), (lsB bound I).length ≤ I.length * 50011
  | [] => by simp [lsB]
  | x :: r => by
    have := lsB_len h0 h1 r
    have h2 := efW_len (x := x) h0 h1
    unfold lsB at *
    rw [List.flatMap_cons, List.length_append, List.length_cons, Nat.add_mul]
    omega
theorem dictB_len {sz : Nat} (hR : RisT T) (h1 : 1 ≤ sz) (h2 : sz ≤ 64) : (dictB sz T).length ≤ 4000000000 := by
  have hl := hR.2
  have hB1 := bodyT_len (l := T) (sz := sz) h2 hR.le (List.range (chN sz T.length))
  have hH1 := headT_len (l := T) (sz := sz) h2 hR.le (List.range (chN sz T.length))
  have hN1 := encN_len10 (x := T.length) (by omega)
  have hcN : chN sz T.length ≤ 1048639 := by
    unfold chN
    exact Nat.le_trans (Nat.div_le_self _ _) (by omega)
  rw [List.length_range] at hB1 hH1
  have h3 : chN sz T.length * 3000 ≤ 1048639 * 3000 := Nat.mul_le_mul_right _ hcN
  have h4 : chN sz T.length * 10 ≤ 1048639 * 10 := Nat.mul_le_mul_right _ hcN
  simp only [dictB, List.length_append]
  omega
/-- rows of bytes -/
abbrev PtB := Option Addr × Nat × List UInt8
abbrev pVal (e : PtB) : Value := .slice e.1 e.2.2.length e.2.1
abbrev pRow (e : PtB) : Ch := .own 5 1 e.1 e.2.2.length e.2.1 (bv e.2.2)
def ptP (PB : List PtB) : Parts := PB.map fun e => (pVal e, e.2.2)
theorem ptP_vals (PB : List PtB) : (ptP PB).vals = PB.map pVal := by simp [ptP, Parts.vals]
theorem ptP_all (PB : List PtB) : (ptP PB).all = (PB.map (·.2.2)).flatten := by
  unfold ptP Parts.all
  rw [List.flatMap_map, List.flatMap_def]
theorem wk_rowb (P : List Ch) {PB : List PtB} {e : PtB} : Wk (pRow e :: (P ++ (PB.map pRow ++ F))) (P ++ ((PB ++ [e]).map pRow ++ F)) := by
  refine .of_perm ?_
  rw [List.map_append, List.append_assoc, ← List.append_assoc, ← List.append_assoc]
  exact List.perm_middle.symm
abbrev IdxA (A1 : Option Addr) (n c1 : Nat) (B1 : Option Addr) (m b1 : Nat) : Value := .agg [.slice A1 n c1, .slice B1 m b1].toArray
theorem pbytes_1 (hE : (bound < 0 ∨ 20000 < bound) ∨ ¬ (T.length : Int) = LL.length) :
    Does Tryz.prog B w0 6 [.int .i64 size, .int .i64 bound, IdxA A1 T.length c1 B1 LL.length b1] F (fun r L => r = .tuple #[.slice none 0 0, .int .i64 13] ∧ L = F) := by
  refine fn_walk Tryz.func6 69 rfl rfl rfl [(0, .int .i64 size), (1, .int .i64 bound), (2, IdxA A1 T.length c1 B1 LL.length b1)] ⟨⟨rfl, rfl⟩, ⟨rfl, rfl⟩, ⟨rfl, rfl⟩, trivial⟩ ?_
  refine vc_seq ?_
  refine vc_region ?_
  refine vl_eff (eff_box rfl rfl) rfl ?_
  rintro _ _ ⟨g5, rfl, rfl⟩
  refine vl_det (det_assign rfl) rfl ?_
  refine vl_det (det_assign rfl) rfl ?_
  refine vl_end [(0, _), (1, _), (5, _)] ⟨rfl, rfl, rfl, trivial⟩ ?_
  refine then_next ?_
  refine vc_seq ?_
  refine vc_seq ?_
  refine vc_region ?_
  refine vl_cut 15 29 [(0, _), (1, _), (5, _)] ((bound < 0 ∨ 20000 < bound) ∨ ¬ (T.length : Int) = LL.length) ⟨rfl, rfl, rfl, trivial⟩ ?_ ?_
  · skip
    refine vl_det (det_move rfl) rfl ?_
    refine vl_det (det_lss rfl rfl) rfl ?_
    refine vl_det (det_move rfl) rfl ?_
    refine vl_guardn rfl rfl rfl (fun h17 => ?_) (fun h17 => ?_)
    · skip
      refine vl_det (det_move rfl) rfl ?_
      refine vl_guard_t rfl rfl ?_
      refine vl_det (det_gtr rfl rfl) rfl ?_
      refine vl_det (det_pick_f rfl rfl) rfl ?_
      refine vl_det (det_move rfl) rfl ?_
      refine vl_guardn rfl rfl rfl (fun h21 => ?_) (fun h21 => ?_)
      · skip
        refine vl_det (det_fieldAddr_ Tryz.underlying25 rfl (by kernel_rfl) rfl rfl) rfl ?_
        refine vl_guard_t rfl rfl ?_
        refine vl_det (det_load_blk (by kernel_rfl) rfl (by repeat (first | exact .hd | apply Sel.tl)) rfl) rfl ?_
        refine vl_guard_t rfl rfl ?_
        refine vl_det (det_len_sl Tryz.underlying22 rfl) rfl ?_
        refine vl_guard_t rfl rfl ?_
        refine vl_det (det_fieldAddr_ Tryz.underlying25 rfl (by kernel_rfl) rfl rfl) rfl ?_
        refine vl_guard_t rfl rfl ?_
        refine vl_det (det_load_blk (by kernel_rfl) rfl (by repeat (first | exact .hd | apply Sel.tl)) rfl) rfl ?_
        refine vl_guard_t rfl rfl ?_
        refine vl_det (det_len_sl Tryz.underlying23 rfl) rfl ?_
        refine vl_guard_t rfl rfl ?_
        refine vl_det (det_neq rfl rfl) rfl ?_
        refine vl_det (det_pick_f rfl rfl) rfl ?_
        exact vl_cut_end ⟨rfl, rfl, rfl, trivial⟩ (by first | rfl | exact bool_to_t (by first | omega | simp_all) | exact bool_to_f (by first | omega | simp_all) | exact bool_to (by first | omega | simp_all) | exact bool_to_b (by first | omega | simp_all))
      · skip
        refine vl_guard_f rfl rfl rfl rfl ?_
        refine vl_guard_f rfl rfl rfl rfl ?_
        refine vl_guard_f rfl rfl rfl rfl ?_
        refine vl_guard_f rfl rfl rfl rfl ?_
        refine vl_guard_f rfl rfl rfl rfl ?_
        refine vl_guard_f rfl rfl rfl rfl ?_
        refine vl_det (det_pick_t rfl rfl) rfl ?_
        exact vl_cut_end ⟨rfl, rfl, rfl, trivial⟩ (by first | rfl | exact bool_to_t (by first | omega | simp_all) | exact bool_to_f (by first | omega | simp_all) | exact bool_to (by first | omega | simp_all) | exact bool_to_b (by first | omega | simp_all))
    · skip
      refine vl_guard_f rfl rfl rfl rfl ?_
      refine vl_det (det_pick_t rfl rfl) rfl ?_
      refine vl_det (det_move rfl) rfl ?_
      refine vl_guard_f rfl rfl rfl rfl ?_
      refine vl_guard_f rfl rfl rfl rfl ?_
      refine vl_guard_f rfl rfl rfl rfl ?_
      refine vl_guard_f rfl rfl rfl rfl ?_
      refine vl_guard_f rfl rfl rfl rfl ?_
      refine vl_guard_f rfl rfl rfl rfl ?_
      refine vl_guard_f rfl rfl rfl rfl ?_
      refine vl_det (det_pick_t rfl rfl) rfl ?_
      exact vl_cut_end ⟨rfl, rfl, rfl, trivial⟩ (by first | rfl | exact bool_to_t (by first | omega | simp_all) | exact bool_to_f (by first | omega | simp_all) | exact bool_to (by first | omega | simp_all) | exact bool_to_b (by first | omega | simp_all))
  · skip
    refine vl_end [(0, _), (1, _), (5, _), (29, _)] ⟨rfl, rfl, rfl, rfl, trivial⟩ ?_
    refine then_next ?_
    refine vc_decideU rfl (fun h29 => ?_) (fun h29 => ?_)
    · skip
      refine vc_seq ?_
      refine vc_region ?_
      refine vl_det (det_assign rfl) rfl ?_
      refine vl_det (det_assign rfl) rfl ?_
      refine vl_end [(6, _), (7, _)] ⟨rfl, rfl, trivial⟩ ?_
      refine then_next ?_
      refine vc_ret ?_
      refine then_ret ?_
      refine ret_wk (L' := F) (.skip (.refl _)) ?_
      refine ret2 rfl rfl rfl ?_
      exact ⟨rfl, rfl⟩
    · skip
      exfalso; exact h29 hE
theorem pbytes_2 (h1 : Bor B w0 F 1 (.slice A1 T.length c1) T.length (strs T)) (hb0 : 0 ≤ bound) (hb1 : bound ≤ 20000) (hl : T.length = LL.length) (hs : T.length ≤ 1000000000) (hE : size < 1 ∨ 64 < size ∨ ¬ RisT T) :
    Does Tryz.prog B w0 6 [.int .i64 size, .int .i64 bound, IdxA A1 T.length c1 B1 LL.length b1] F (fun r L => r = .tuple #[.slice none 0 0, .int .i64 13] ∧ L = F) := by
  refine fn_walk Tryz.func6 69 rfl rfl rfl [(0, .int .i64 size), (1, .int .i64 bound), (2, IdxA A1 T.length c1 B1 LL.length b1)] ⟨⟨rfl, rfl⟩, ⟨rfl, rfl⟩, ⟨rfl, rfl⟩, trivial⟩ ?_
  refine vc_seq ?_
  refine vc_region ?_
  refine vl_eff (eff_box rfl rfl) rfl ?_
  rintro _ _ ⟨g5, rfl, rfl⟩
  refine vl_det (det_assign rfl) rfl ?_
  refine vl_det (det_assign rfl) rfl ?_
  refine vl_end [(0, _), (1, _), (5, _)] ⟨rfl, rfl, rfl, trivial⟩ ?_
  refine then_next ?_
  refine vc_seq ?_
  refine vc_seq ?_
  refine vc_region ?_
  refine vl_cut 15 29 [(0, _), (1, _), (5, _)] ((bound < 0 ∨ 20000 < bound) ∨ ¬ (T.length : Int) = LL.length) ⟨rfl, rfl, rfl, trivial⟩ ?_ ?_
  · skip
    refine vl_det (det_move rfl) rfl ?_
    refine vl_det (det_lss rfl rfl) rfl ?_
    refine vl_det (det_move rfl) rfl ?_
    refine vl_guardn rfl rfl rfl (fun h17 => ?_) (fun h17 => ?_)
    · skip
      refine vl_det (det_move rfl) rfl ?_
      refine vl_guard_t rfl rfl ?_
      refine vl_det (det_gtr rfl rfl) rfl ?_
      refine vl_det (det_pick_f rfl rfl) rfl ?_
      refine vl_det (det_move rfl) rfl ?_
      refine vl_guardn rfl rfl rfl (fun h21 => ?_) (fun h21 => ?_)
      · skip
        refine vl_det (det_fieldAddr_ Tryz.underlying25 rfl (by kernel_rfl) rfl rfl) rfl ?_
        refine vl_guard_t rfl rfl ?_
        refine vl_det (det_load_blk (by kernel_rfl) rfl (by repeat (first | exact .hd | apply Sel.tl)) rfl) rfl ?_
        refine vl_guard_t rfl rfl ?_
        refine vl_det (det_len_sl Tryz.underlying22 rfl) rfl ?_
        refine vl_guard_t rfl rfl ?_
        refine vl_det (det_fieldAddr_ Tryz.underlying25 rfl (by kernel_rfl) rfl rfl) rfl ?_
        refine vl_guard_t rfl rfl ?_
        refine vl_det (det_load_blk (by kernel_rfl) rfl (by repeat (first | exact .hd | apply Sel.tl)) rfl) rfl ?_
        refine vl_guard_t rfl rfl ?_
        refine vl_det (det_len_sl Tryz.underlying23 rfl) rfl ?_
        refine vl_guard_t rfl rfl ?_
        refine vl_det (det_neq rfl rfl) rfl ?_
        refine vl_det (det_pick_f rfl rfl) rfl ?_
        exact vl_cut_end ⟨rfl, rfl, rfl, trivial⟩ (by first | rfl | exact bool_to_t (by first | omega | simp_all) | exact bool_to_f (by first | omega | simp_all) | exact bool_to (by first | omega | simp_all) | exact bool_to_b (by first | omega | simp_all))
      · skip
        refine vl_guard_f rfl rfl rfl rfl ?_
        refine vl_guard_f rfl rfl rfl rfl ?_
        refine vl_guard_f rfl rfl rfl rfl ?_
        refine vl_guard_f rfl rfl rfl rfl ?_
        refine vl_guard_f rfl rfl rfl rfl ?_
        refine vl_guard_f rfl rfl rfl rfl ?_
        refine vl_det (det_pick_t rfl rfl) rfl ?_
        exact vl_cut_end ⟨rfl, rfl, rfl, trivial⟩ (by first | rfl | exact bool_to_t (by first | omega | simp_all) | exact bool_to_f (by first | omega | simp_all) | exact bool_to (by first | omega | simp_all) | exact bool_to_b (by first | omega | simp_all))
    · skip
      refine vl_guard_f rfl rfl rfl rfl ?_
      refine vl_det (det_pick_t rfl rfl) rfl ?_
      refine vl_det (det_move rfl) rfl ?_
      refine vl_guard_f rfl rfl rfl rfl ?_
      refine vl_guard_f rfl rfl rfl rfl ?_
      refine vl_guard_f rfl rfl rfl rfl ?_
      refine vl_guard_f rfl rfl rfl rfl ?_
      refine vl_guard_f rfl rfl rfl rfl ?_
      refine vl_guard_f rfl rfl rfl rfl ?_
      refine vl_guard_f rfl rfl rfl rfl ?_
      refine vl_det (det_pick_t rfl rfl) rfl ?_
      exact vl_cut_end ⟨rfl, rfl, rfl, trivial⟩ (by first | rfl | exact bool_to_t (by first | omega | simp_all) | exact bool_to_f (by first | omega | simp_all) | exact bool_to (by first | omega | simp_all) | exact bool_to_b (by first | omega | simp_all))
  · skip
    refine vl_end [(0, _), (1, _), (5, _), (29, _)] ⟨rfl, rfl, rfl, rfl, trivial⟩ ?_
    refine then_next ?_
    refine vc_decideU rfl (fun h29 => ?_) (fun h29 => ?_)
    · skip
      exfalso; omega
    · skip
      refine vc_skip ?_
      refine then_next ?_
      refine vc_seq ?_
      refine vc_region ?_
      refine vl_det (det_move rfl) rfl ?_
      refine vl_det (det_fieldAddr_ Tryz.underlying25 rfl (by kernel_rfl) rfl rfl) rfl ?_
      refine vl_det (det_load_blk (by kernel_rfl) rfl (by repeat (first | exact .hd | apply Sel.tl)) rfl) rfl ?_
      refine vl_call co12 rfl (dwrite_bad (by first | (exact Bor.own (by repeat (first | exact List.Mem.head _ | apply List.Mem.tail))) | (repeat (first | assumption | apply Bor.cons))) (by omega) hE) rfl ?_
      rintro _ _ ⟨A34, c34, rfl, hLL⟩
      obtain rfl := hLL.symm
      refine vl_det (det_move rfl) rfl ?_
      refine vl_det (det_extract rfl rfl) rfl ?_
      refine vl_det (det_extract rfl rfl) rfl ?_
      refine vl_det (det_assign rfl) rfl ?_
      refine vl_det (det_assign rfl) rfl ?_
      refine vl_end [(1, _), (5, _), (8, _), (9, _)] ⟨rfl, rfl, rfl, rfl, trivial⟩ ?_
      refine then_next ?_
      refine vc_seq ?_
      refine vc_seq ?_
      refine vc_region ?_
      refine vl_det (det_move rfl) rfl ?_
      refine vl_det (det_neq rfl rfl) rfl ?_
      refine vl_end [(1, _), (5, _), (8, _), (9, _), (38, _)] ⟨rfl, rfl, rfl, rfl, rfl, trivial⟩ ?_
      refine then_next ?_
      refine vc_decideU rfl (fun h38 => ?_) (fun h38 => ?_)
      · skip
        refine vc_seq ?_
        refine vc_region ?_
        refine vl_det (det_move rfl) rfl ?_
        refine vl_det (det_assign rfl) rfl ?_
        refine vl_det (det_assign rfl) rfl ?_
        refine vl_end [(6, _), (7, _)] ⟨rfl, rfl, trivial⟩ ?_
        refine then_next ?_
        refine vc_ret ?_
        refine then_ret ?_
        refine ret_wk (L' := F) (.skip (.skip (.refl _))) ?_
        refine ret2 rfl rfl rfl ?_
        exact ⟨rfl, rfl⟩
      · skip
        exfalso; exact h38 (by decide)
theorem idsI_get {k : Nat} (hk : k < LL.length) : (idsI LL).take (k + 1) = (idsI LL).take k ++ [(LL.getD k iNil).2.2] := by
  rw [List.take_add_one, idsI, List.getElem?_map, List.getElem?_eq_getElem hk]
  simp [List.getD, List.getElem?_eq_getElem hk]
theorem idsI_mem {x : List Int} (h : x ∈ idsI LL) : ∃ i, i < LL.length ∧ (LL.getD i iNil).2.2 = x := by
  obtain ⟨e, he, rfl⟩ := List.mem_map.1 h
  obtain ⟨i, hi, rfl⟩ := List.getElem_of_mem he
  exact ⟨i, hi, by simp [List.getD, List.getElem?_eq_getElem hi]⟩
theorem pbytes_3 {sz : Nat} (h1 : Bor B w0 F 1 (.slice A1 T.length c1) T.length (strs T)) (hL : Bor B w0 F 1 (.slice B1 LL.length b1) LL.length (LL.map iVal)) (hI : LsBor B w0 F LL) (hs3 : ∀ e ∈ LL, e.2.2.length ≤ 9000000000000000000)
    (hb0 : 0 ≤ bound) (hb1 : bound ≤ 20000) (hl : T.length = LL.length) (hR : RisT T) (hz1 : 1 ≤ sz) (hz2 : sz ≤ 64) :
    Does Tryz.prog B w0 6 [.int .i64 sz, .int .i64 bound, IdxA A1 T.length c1 B1 LL.length b1] F (fun r L => ∃ A' c', r = .tuple #[.slice A' (idxW sz bound T (idsI LL)).1.length c', .int .i64 (idxW sz bound T (idsI LL)).2] ∧ L = .own 5 1 A' (idxW sz bound T (idsI LL)).1.length c' (bv (idxW sz bound T (idsI LL)).1) :: F) := by
  have hTl := hR.2
  have hdl := dictB_len hR hz1 hz2
  have hll := lsB_len hb0 hb1 (idsI LL)
  have hil : (idsI LL).length = LL.length := by simp [idsI]
  refine Does.bor h1 fun hcap _ => ?_
  refine fn_walk Tryz.func6 69 rfl rfl rfl [(0, .int .i64 sz), (1, .int .i64 bound), (2, IdxA A1 T.length c1 B1 LL.length b1)] ⟨⟨rfl, rfl⟩, ⟨rfl, rfl⟩, ⟨rfl, rfl⟩, trivial⟩ ?_
  refine vc_seq ?_
  refine vc_region ?_
  refine vl_eff (eff_box rfl rfl) rfl ?_
  rintro _ _ ⟨g5, rfl, rfl⟩
  refine vl_det (det_assign rfl) rfl ?_
  refine vl_det (det_assign rfl) rfl ?_
  refine vl_end [(0, _), (1, _), (5, _)] ⟨rfl, rfl, rfl, trivial⟩ ?_
  refine then_next ?_
  refine vc_seq ?_
  refine vc_seq ?_
  refine vc_region ?_
  refine vl_cut 15 29 [(0, _), (1, _), (5, _)] ((bound < 0 ∨ 20000 < bound) ∨ ¬ (T.length : Int) = LL.length) ⟨rfl, rfl, rfl, trivial⟩ ?_ ?_
  · skip
    refine vl_det (det_move rfl) rfl ?_
    refine vl_det (det_lss rfl rfl) rfl ?_
    refine vl_det (det_move rfl) rfl ?_
    refine vl_guardn rfl rfl rfl (fun h17 => ?_) (fun h17 => ?_)
    · skip
      refine vl_det (det_move rfl) rfl ?_
      refine vl_guard_t rfl rfl ?_
      refine vl_det (det_gtr rfl rfl) rfl ?_
      refine vl_det (det_pick_f rfl rfl) rfl ?_
      refine vl_det (det_move rfl) rfl ?_
      refine vl_guardn rfl rfl rfl (fun h21 => ?_) (fun h21 => ?_)
      · skip
        refine vl_det (det_fieldAddr_ Tryz.underlying25 rfl (by kernel_rfl) rfl rfl) rfl ?_
        refine vl_guard_t rfl rfl ?_
        refine vl_det (det_load_blk (by kernel_rfl) rfl (by repeat (first | exact .hd | apply Sel.tl)) rfl) rfl ?_
        refine vl_guard_t rfl rfl ?_
        refine vl_det (det_len_sl Tryz.underlying22 rfl) rfl ?_
        refine vl_guard_t rfl rfl ?_
        refine vl_det (det_fieldAddr_ Tryz.underlying25 rfl (by kernel_rfl) rfl rfl) rfl ?_
        refine vl_guard_t rfl rfl ?_
        refine vl_det (det_load_blk (by kernel_rfl) rfl (by repeat (first | exact .hd | apply Sel.tl)) rfl) rfl ?_
        refine vl_guard_t rfl rfl ?_
        refine vl_det (det_len_sl Tryz.underlying23 rfl) rfl ?_
        refine vl_guard_t rfl rfl ?_
        refine vl_det (det_neq rfl rfl) rfl ?_
        refine vl_det (det_pick_f rfl rfl) rfl ?_
        exact vl_cut_end ⟨rfl, rfl, rfl, trivial⟩ (by first | rfl | exact bool_to_t (by first | omega | simp_all) | exact bool_to_f (by first | omega | simp_all) | exact bool_to (by first | omega | simp_all) | exact bool_to_b (by first | omega | simp_all))
      · skip
        refine vl_guard_f rfl rfl rfl rfl ?_
        refine vl_guard_f rfl rfl rfl rfl ?_
        refine vl_guard_f rfl rfl rfl rfl ?_
        refine vl_guard_f rfl rfl rfl rfl ?_
        refine vl_guard_f rfl rfl rfl rfl ?_
        refine vl_guard_f rfl rfl rfl rfl ?_
        refine vl_det (det_pick_t rfl rfl) rfl ?_
        exact vl_cut_end ⟨rfl, rfl, rfl, trivial⟩ (by first | rfl | exact bool_to_t (by first | omega | simp_all) | exact bool_to_f (by first | omega | simp_all) | exact bool_to (by first | omega | simp_all) | exact bool_to_b (by first | omega | simp_all))
    · skip
      refine vl_guard_f rfl rfl rfl rfl ?_
      refine vl_det (det_pick_t rfl rfl) rfl ?_
      refine vl_det (det_move rfl) rfl ?_
      refine vl_guard_f rfl rfl rfl rfl ?_
      refine vl_guard_f rfl rfl rfl rfl ?_
      refine vl_guard_f rfl rfl rfl rfl ?_
      refine vl_guard_f rfl rfl rfl rfl ?_
      refine vl_guard_f rfl rfl rfl rfl ?_
      refine vl_guard_f rfl rfl rfl rfl ?_
      refine vl_guard_f rfl rfl rfl rfl ?_
      refine vl_det (det_pick_t rfl rfl) rfl ?_
      exact vl_cut_end ⟨rfl, rfl, rfl, trivial⟩ (by first | rfl | exact bool_to_t (by first | omega | simp_all) | exact bool_to_f (by first | omega | simp_all) | exact bool_to (by first | omega | simp_all) | exact bool_to_b (by first | omega | simp_all))
  · skip
    refine vl_end [(0, _), (1, _), (5, _), (29, _)] ⟨rfl, rfl, rfl, rfl, trivial⟩ ?_
    refine then_next ?_
    refine vc_decideU rfl (fun h29 => ?_) (fun h29 => ?_)
    · skip
      exfalso; omega
    · skip
      refine vc_skip ?_
      refine then_next ?_
      refine vc_seq ?_
      refine vc_region ?_
      refine vl_det (det_move rfl) rfl ?_
      refine vl_det (det_fieldAddr_ Tryz.underlying25 rfl (by kernel_rfl) rfl rfl) rfl ?_
      refine vl_det (det_load_blk (by kernel_rfl) rfl (by repeat (first | exact .hd | apply Sel.tl)) rfl) rfl ?_
      refine vl_call co12 rfl (dwrite_ok (by first | (exact Bor.own (by repeat (first | exact List.Mem.head _ | apply List.Mem.tail))) | (repeat (first | assumption | apply Bor.cons))) hcap hz1 hz2 hR) rfl ?_
      rintro _ _ ⟨A34, c34, rfl, hLL⟩
      obtain rfl := hLL.symm
      refine vl_det (det_move rfl) rfl ?_
      refine vl_det (det_extract rfl rfl) rfl ?_
      refine vl_det (det_extract rfl rfl) rfl ?_
      refine vl_det (det_assign rfl) rfl ?_
      refine vl_det (det_assign rfl) rfl ?_
      refine vl_end [(1, _), (5, _), (8, _), (9, _)] ⟨rfl, rfl, rfl, rfl, trivial⟩ ?_
      refine then_next ?_
      refine vc_seq ?_
      refine vc_seq ?_
      refine vc_region ?_
      refine vl_det (det_move rfl) rfl ?_
      refine vl_det (det_neq rfl rfl) rfl ?_
      refine vl_end [(1, _), (5, _), (8, _), (9, _), (38, _)] ⟨rfl, rfl, rfl, rfl, rfl, trivial⟩ ?_
      refine then_next ?_
      refine vc_decideU rfl (fun h38 => ?_) (fun h38 => ?_)
      · skip
        exfalso; exact h38 rfl
      · skip
        refine vc_skip ?_
        refine then_next ?_
        refine vc_seq ?_
        refine vc_region ?_
        refine vl_det (det_move rfl) rfl ?_
        refine vl_eff (eff_build_lit slT44 [_] rfl rfl (by first | exact bv_one _ | exact strs_one _ | exact ints_one _ _ | (simp; done) | (simp [Value.oneCell']; done) | assumption) (by omega) (by omega)) rfl ?_
        rintro _ _ ⟨A41, rfl, rfl⟩
        refine vl_det (det_assign rfl) rfl ?_
        refine vl_end [(1, _), (5, _), (10, _)] ⟨rfl, rfl, rfl, trivial⟩ ?_
        refine then_next ?_
        refine vc_seq ?_
        refine vc_seq ?_
        refine vc_region ?_
        refine vl_det (det_fieldAddr_ Tryz.underlying25 rfl (by kernel_rfl) rfl rfl) rfl ?_
        refine vl_det (det_load_blk (by kernel_rfl) rfl (by repeat (first | exact .hd | apply Sel.tl)) rfl) rfl ?_
        refine vl_det (det_len_sl Tryz.underlying23 rfl) rfl ?_
        refine vl_det (det_move rfl) rfl ?_
        refine vl_end [(1, _), (10, _), (43, _), (44, _), (45, _)] ⟨rfl, rfl, rfl, rfl, rfl, trivial⟩ ?_
        refine then_next ?_
        refine vc_block ?_
        refine vc_loopJ (fun zf zL zm => ∃ (k : Nat) (PB : List PtB) (A10 : Option Addr) (c10 : Nat), (k ≤ LL.length ∧ PB.map (·.2.2) = dictB sz T :: ((idsI LL).take k).map (fun x => (efW bound x).1) ∧ PB.length = k + 1 ∧ (∀ i, i < k → (LL.getD i iNil).2.2 ≠ [] ∧ Ris bound (LL.getD i iNil).2.2)) ∧ LL.length - k = zm ∧ Sub zf [(1, .int .i64 bound), (10, .slice A10 PB.length c10), (43, .slice B1 LL.length b1), (44, .int .i64 LL.length), (45, .int .i64 k)] ∧ Wk zL (.own 26 1 A10 PB.length c10 (PB.map pVal) :: .blk g5 25 [.slice A1 T.length c1, .slice B1 LL.length b1] :: (PB.map pRow ++ F))) _ ⟨0, [(A34, c34, dictB sz T)], A41, 1, ⟨Nat.zero_le _, rfl, rfl, fun i h => absurd h (by omega)⟩, rfl, ⟨(by first | rfl | exact int_to (by omega) | exact sl_to (by omega)), (by first | rfl | exact int_to (by omega) | exact sl_to (by omega)), (by first | rfl | exact int_to (by omega) | exact sl_to (by omega)), (by first | rfl | exact int_to (by omega) | exact sl_to (by omega)), (by first | rfl | exact int_to (by omega) | exact sl_to (by omega)), trivial⟩, .cons (.swap (.refl _))⟩ ?_
        rintro _ _ _ ⟨k, PB, A10, c10, ⟨hk, hPB, hPl, hall⟩, rfl, hs, hp⟩
        refine vc_weaken _ hs (vc_wk hp ?_)
        clear hs hp
        refine vc_seq ?_
        refine vc_region ?_
        refine vl_det (det_lss rfl rfl) rfl ?_
        refine vl_end [(1, _), (10, _), (43, _), (44, _), (45, _), (46, _)] ⟨rfl, rfl, rfl, rfl, rfl, rfl, trivial⟩ ?_
        refine then_next ?_
        refine vc_seq ?_
        refine vc_decideU rfl (fun h46 => ?_) (fun h46 => ?_)
        · skip
          have hkl : k < LL.length := by omega
          have hie := (hI.get hkl).mono (List.sublist_append_right (PB.map pRow) F)
          have hLe := hL.mono (List.sublist_append_right (PB.map pRow) F)
          have hxl := hs3 _ (getD_mem hkl iNil)
          have htk := idsI_get hkl
          have hmem : (LL.getD k iNil).2.2 ∈ idsI LL := List.mem_map_of_mem (getD_mem hkl iNil)
          obtain ⟨x, hx⟩ : ∃ x, x = (LL.getD k iNil).2.2 := ⟨_, rfl⟩
          have hig := iget hkl
          obtain ⟨eA, ec, he⟩ : ∃ eA ec, LL.getD k iNil = (eA, ec, x) := ⟨_, _, by rw [hx]⟩
          rw [he] at hie hxl htk hmem hig
          refine vc_skip ?_
          refine then_next ?_
          refine vc_seq ?_
          refine vc_block ?_
          refine vc_seq ?_
          refine vc_region ?_
          refine vl_det (det_indexAddr (size := 1) Tryz.underlying23 (by kernel_rfl) rfl rfl rfl (by omega) (by first | (exact Bor.own (by repeat (first | exact List.Mem.head _ | apply List.Mem.tail))) | (repeat (first | assumption | apply Bor.cons)))) rfl ?_
          refine vl_det (det_load_row (by kernel_rfl) rfl (by first | (exact Bor.own (by repeat (first | exact List.Mem.head _ | apply List.Mem.tail))) | (repeat (first | assumption | apply Bor.cons))) (by omega) hig) rfl ?_
          refine vl_det (det_assign rfl) rfl ?_
          refine vl_end [(1, _), (10, _), (12, _), (43, _), (44, _), (45, _)] ⟨rfl, rfl, rfl, rfl, rfl, rfl, trivial⟩ ?_
          refine then_next ?_
          refine vc_seq ?_
          refine vc_region ?_
          refine vl_det (det_move rfl) rfl ?_
          refine vl_det (det_move rfl) rfl ?_
          refine vl_call co13 rfl (efwrite_d (ids := x) (by first | (exact Bor.own (by repeat (first | exact List.Mem.head _ | apply List.Mem.tail))) | (repeat (first | assumption | apply Bor.cons))) hxl) rfl ?_
          rintro _ _ ⟨A52, c52, rfl, hLL⟩
          obtain rfl := hLL.symm
          refine vl_det (det_move rfl) rfl ?_
          refine vl_det (det_extract rfl rfl) rfl ?_
          refine vl_det (det_extract rfl rfl) rfl ?_
          refine vl_det (det_assign rfl) rfl ?_
          refine vl_det (det_assign rfl) rfl ?_
          refine vl_end [(1, _), (10, _), (12, _), (13, _), (14, _), (43, _), (44, _), (45, _)] ⟨rfl, rfl, rfl, rfl, rfl, rfl, rfl, rfl, trivial⟩ ?_
          refine then_next ?_
          refine vc_seq ?_
          refine vc_seq ?_
          refine vc_region ?_
          refine vl_cut 7 61 [(1, _), (10, _), (13, _), (43, _), (44, _), (45, _)] (¬ (efW bound x).2 = 0 ∨ (x.length : Int) = 0) ⟨rfl, rfl, rfl, rfl, rfl, rfl, trivial⟩ ?_ ?_
          · skip
            refine vl_det (det_move rfl) rfl ?_
            refine vl_det (det_neq rfl rfl) rfl ?_
            refine vl_det (det_move rfl) rfl ?_
            refine vl_guardn rfl rfl rfl (fun h57 => ?_) (fun h57 => ?_)
            · skip
              refine vl_det (det_move rfl) rfl ?_
              refine vl_guard_t rfl rfl ?_
              refine vl_det (det_len_sl Tryz.underlying42 rfl) rfl ?_
              refine vl_guard_t rfl rfl ?_
              refine vl_det (det_eql rfl rfl) rfl ?_
              refine vl_det (det_pick_f rfl rfl) rfl ?_
              exact vl_cut_end ⟨rfl, rfl, rfl, rfl, rfl, rfl, trivial⟩ (by first | rfl | exact bool_to_t (by first | exact .inl (by assumption) | exact ⟨fun z => .inr z, fun q => q.elim (fun z => absurd z (by assumption)) (fun z => z)⟩ | omega) | exact bool_to_f (by first | exact .inl (by assumption) | exact ⟨fun z => .inr z, fun q => q.elim (fun z => absurd z (by assumption)) (fun z => z)⟩ | omega) | exact bool_to (by first | exact .inl (by assumption) | exact ⟨fun z => .inr z, fun q => q.elim (fun z => absurd z (by assumption)) (fun z => z)⟩ | omega) | exact bool_to_b (by first | exact .inl (by assumption) | exact ⟨fun z => .inr z, fun q => q.elim (fun z => absurd z (by assumption)) (fun z => z)⟩ | omega))
            · skip
              refine vl_guard_f rfl rfl rfl rfl ?_
              refine vl_guard_f rfl rfl rfl rfl ?_
              refine vl_det (det_pick_t rfl rfl) rfl ?_
              exact vl_cut_end ⟨rfl, rfl, rfl, rfl, rfl, rfl, trivial⟩ (by first | rfl | exact bool_to_t (by first | exact .inl (by assumption) | exact ⟨fun z => .inr z, fun q => q.elim (fun z => absurd z (by assumption)) (fun z => z)⟩ | omega) | exact bool_to_f (by first | exact .inl (by assumption) | exact ⟨fun z => .inr z, fun q => q.elim (fun z => absurd z (by assumption)) (fun z => z)⟩ | omega) | exact bool_to (by first | exact .inl (by assumption) | exact ⟨fun z => .inr z, fun q => q.elim (fun z => absurd z (by assumption)) (fun z => z)⟩ | omega) | exact bool_to_b (by first | exact .inl (by assumption) | exact ⟨fun z => .inr z, fun q => q.elim (fun z => absurd z (by assumption)) (fun z => z)⟩ | omega))
          · skip
            refine vl_end [(1, _), (10, _), (13, _), (43, _), (44, _), (45, _), (61, _)] ⟨rfl, rfl, rfl, rfl, rfl, rfl, rfl, trivial⟩ ?_
            refine then_next ?_
            refine vc_decideU rfl (fun h61 => ?_) (fun h61 => ?_)
            · skip
              have hno : ¬ idxOk bound T (idsI LL) := fun q => by
                obtain ⟨h2, h3⟩ := q.2.2.2 x hmem
                rcases h61 with h | h
                · exact h ((efW_iff hb0 hb1).2 h3)
                · exact h2 (List.eq_nil_of_length_eq_zero (by omega))
              refine vc_seq ?_
              refine vc_region ?_
              refine vl_det (det_assign rfl) rfl ?_
              refine vl_det (det_assign rfl) rfl ?_
              refine vl_end [(6, _), (7, _)] ⟨rfl, rfl, trivial⟩ ?_
              refine then_next ?_
              refine vc_ret ?_
              refine then_ret ?_
              refine in_ret ?_
              refine then_ret ?_
              refine loop_ret ?_
              refine in_ret ?_
              refine then_ret ?_
              rw [idxW_bad (.inr (.inr hno))]
              refine ret_nil_row 5 1 none ?_
              refine ret_wk (L' := .own 5 1 none 0 0 [] :: F) (.cons (.skip (.skip (.skip (wk_rows (.refl _) _))))) ?_
              refine ret2 rfl rfl rfl ?_
              exact ⟨none, 0, rfl, rfl⟩
            · skip
              have hxr : Ris bound x := (efW_iff hb0 hb1).1 (Classical.not_not.1 fun q => h61 (.inl q))
              have hxn : x ≠ [] := fun q => h61 (.inr (by rw [q]; rfl))
              refine vc_skip ?_
              refine then_next ?_
              refine vc_region ?_
              refine vl_det (det_move rfl) rfl ?_
              refine vl_det (det_move rfl) rfl ?_
              refine vl_push slT44 rfl rfl rfl rfl rfl (fun _ => rfl) (by repeat (first | exact .hd | apply Sel.tl)) (by omega) (by omega) ?_
              intro _ A65 c65
              refine vl_det (det_assign rfl) rfl ?_
              refine vl_end [(1, _), (10, _), (43, _), (44, _), (45, _)] ⟨rfl, rfl, rfl, rfl, rfl, trivial⟩ ?_
              refine in_normal ?_
              refine then_next ?_
              refine vc_region ?_
              refine vl_det (det_add rfl rfl (w_i64 (by omega) (by omega))) rfl ?_
              refine vl_det (det_move rfl) rfl ?_
              refine vl_end [(1, _), (10, _), (43, _), (44, _), (45, _)] ⟨rfl, rfl, rfl, rfl, rfl, trivial⟩ ?_
              have hel : (PB ++ [(A52, c52, (efW bound x).1)]).length = PB.length + 1 := by simp
              refine in_loop_ ⟨_, by omega, k + 1, PB ++ [(A52, c52, (efW bound x).1)], A65, c65, ⟨by omega, by rw [List.map_append, hPB, htk, List.map_append]; rfl, by omega, fun i hi => by
  rcases Nat.lt_or_ge i k with h | h
  · exact hall i h
  · rw [show i = k by omega, he]; exact ⟨hxn, hxr⟩⟩, rfl, ⟨(by first | rfl | exact int_to (by omega) | exact sl_to (by omega)), (by first | rfl | exact int_to (by omega) | exact sl_to (by omega)), (by first | rfl | exact int_to (by omega) | exact sl_to (by omega)), (by first | rfl | exact int_to (by omega) | exact sl_to (by omega)), (by first | rfl | exact int_to (by omega) | exact sl_to (by omega)), trivial⟩, .swap (wk_own hel.symm (by simp) (wk_rowb (PB := PB) (e := (A52, c52, (efW bound x).1)) [_]))⟩
        · skip
          obtain rfl : k = LL.length := by omega
          have hok : idxOk bound T (idsI LL) := ⟨⟨hb0, hb1⟩, by omega, hR, fun x hx => by
            obtain ⟨i, hi, rfl⟩ := idsI_mem hx
            exact hall i hi⟩
          have hall2 : (ptP PB).all = idxB sz bound T (idsI LL) := by
            rw [ptP_all, hPB, List.take_of_length_le (by omega)]
            simp [idxB, lsB, List.flatMap_def]
          have hbl : (idxB sz bound T (idsI LL)).length ≤ 1000000000000 := by
            have : LL.length * 50011 ≤ 1048576 * 50011 := Nat.mul_le_mul_right _ (by omega)
            unfold idxB
            rw [List.length_append]
            rw [hil] at hll
            omega
          rw [idxW_ok hz1 hz2 hok]
          refine vc_exit ?_
          refine then_exit ?_
          refine loop_exit ?_
          refine in_eq ?_
          refine then_next ?_
          refine vc_seq ?_
          refine vc_region ?_
          refine vl_det (det_move rfl) rfl ?_
          refine vl_call co14 rfl (all_d (P := ptP PB) (by rw [ptP_vals]; exact (by first | (exact Bor.own (by repeat (first | exact List.Mem.head _ | apply List.Mem.tail))) | (repeat (first | assumption | apply Bor.cons)))) (fun y hy => by obtain ⟨e, he, rfl⟩ := List.mem_map.1 hy; exact Bor.own (List.mem_cons_of_mem _ (List.mem_cons_of_mem _ (List.mem_append_left _ (List.mem_map_of_mem he))))) (by simp [ptP]) hall2 (by omega) (by simp [ptP]; omega)) rfl ?_
          rintro _ _ ⟨A68, c68, rfl, hLL⟩
          obtain rfl := hLL.symm
          refine vl_det (det_assign rfl) rfl ?_
          refine vl_det (det_assign rfl) rfl ?_
          refine vl_end [(6, _), (7, _)] ⟨rfl, rfl, trivial⟩ ?_
          refine then_next ?_
          refine vc_ret ?_
          refine ret_wk (L' := .own 5 1 A68 (idxB sz bound T (idsI LL)).length c68 (bv (idxB sz bound T (idsI LL))) :: F) (.cons (.skip (.skip (wk_rows (.refl _) _)))) ?_
          refine ret2 rfl rfl rfl ?_
          exact ⟨A68, c68, rfl, rfl⟩
theorem pbytes_d (h1 : Bor B w0 F 1 (.slice A1 T.length c1) T.length (strs T)) (hL : Bor B w0 F 1 (.slice B1 LL.length b1) LL.length (LL.map iVal)) (hI : LsBor B w0 F LL) (hs3 : ∀ e ∈ LL, e.2.2.length ≤ 9000000000000000000) (hs : T.length ≤ 1000000000) :
    Does Tryz.prog B w0 6 [.int .i64 size, .int .i64 bound, IdxA A1 T.length c1 B1 LL.length b1] F (fun r L => ∃ A' c', r = .tuple #[.slice A' (idxW size bound T (idsI LL)).1.length c', .int .i64 (idxW size bound T (idsI LL)).2] ∧ L = .own 5 1 A' (idxW size bound T (idsI LL)).1.length c' (bv (idxW size bound T (idsI LL)).1) :: F) := by
  have hil : (idsI LL).length = LL.length := by simp [idsI]
  have hnil : ∀ {L : List Ch}, Does Tryz.prog B w0 6 [.int .i64 size, .int .i64 bound, IdxA A1 T.length c1 B1 LL.length b1] L (fun r K => r = .tuple #[.slice none 0 0, .int .i64 13] ∧ K = L) → idxW size bound T (idsI LL) = ([], 13) → Does Tryz.prog B w0 6 [.int .i64 size, .int .i64 bound, IdxA A1 T.length c1 B1 LL.length b1] L (fun r K => ∃ A' c', r = .tuple #[.slice A' (idxW size bound T (idsI LL)).1.length c', .int .i64 (idxW size bound T (idsI LL)).2] ∧ K = .own 5 1 A' (idxW size bound T (idsI LL)).1.length c' (bv (idxW size bound T (idsI LL)).1) :: L) := fun {L} h e => by
    rw [e]
    intro w hw
    refine (h w hw).mono fun ee w' ⟨r, K, he, ⟨hr, hK⟩, hs⟩ => ?_
    subst hK
    exact ⟨r, _, he, ⟨none, 0, hr, rfl⟩, hs.nil_row 5 1 none⟩
  by_cases hE : (bound < 0 ∨ 20000 < bound) ∨ ¬ (T.length : Int) = LL.length
  · exact hnil (pbytes_1 hE) (idxW_bad (.inr (.inr fun q => by
      have h2 := q.1; have h3 := q.2.1
      omega)))
  · by_cases hE2 : size < 1 ∨ 64 < size ∨ ¬ RisT T
    · refine hnil (pbytes_2 h1 (by omega) (by omega) (by omega) hs hE2) (idxW_bad ?_)
      rcases hE2 with h | h | h
      · exact .inl h
      · exact .inr (.inl h)
      · exact .inr (.inr fun q => h q.2.2.1)
    · have hR : RisT T := Classical.byContradiction fun h => hE2 (.inr (.inr h))
      obtain ⟨sz, rfl⟩ := Int.eq_ofNat_of_zero_le (show 0 ≤ size by omega)
      exact pbytes_3 h1 hL hI hs3 (by omega) (by omega) (by omega) hR (by omega) (by omega)
end Go.Proofs.YtpamjobiohbibaaGreat
namespace Go.Proofs.YtpamjobiohbibaaGreat
open Go.RowKit
set_option linter.unusedVariables false
set_option maxRecDepth 20000
variable {B : Nat} {w0 : World} {F : List Ch} {A A1 A2 : Option Addr} {n c c1 c2 g : Nat} {s : Cs}
theorem cend_d (ho : CsOk s) (hb : Bor B w0 F 1 (.slice A s.b.length c) s.b.length (bv s.b)) :
    Does Tryz.prog B w0 67 [.pointer (some ⟨g, 0, none⟩)] (Cv g A c s :: F) (fun r L => r = .int .i64 s.end'.e ∧ L = Cv g A c s.end' :: F) := by
  refine fn_walk Tryz.func67 10 rfl rfl rfl [(0, .pointer (some ⟨g, 0, none⟩))] ⟨⟨rfl, rfl⟩, trivial⟩ ?_
  refine vc_seq ?_
  refine vc_region ?_
  refine vl_det (det_assign rfl) rfl ?_
  refine vl_end [(0, _)] ⟨rfl, trivial⟩ ?_
  refine then_next ?_
  refine vc_seq ?_
  refine vc_seq ?_
  refine vc_region ?_
  refine vl_det (det_move rfl) rfl ?_
  refine vl_call co80 rfl (cleft_d ho hb) rfl ?_
  rintro _ _ ⟨rfl, hLL⟩
  obtain rfl := hLL.symm
  refine vl_det (det_gtr rfl rfl) rfl ?_
  refine vl_end [(0, _), (5, _)] ⟨rfl, rfl, trivial⟩ ?_
  refine then_next ?_
  refine vc_decideU rfl (fun h5 => ?_) (fun h5 => ?_)
  · skip
    have he : s.end' = s.failed 2 := if_pos (by omega)
    refine vc_region ?_
    refine vl_det (det_move rfl) rfl ?_
    refine vl_call co79 rfl (cfail_d 2) rfl ?_
    rintro _ _ ⟨rfl, hLL⟩
    obtain rfl := hLL.symm
    refine vl_end [(0, _)] ⟨rfl, trivial⟩ ?_
    refine then_next ?_
    refine vc_seq ?_
    refine vc_region ?_
    refine vl_det (det_move rfl) rfl ?_
    refine vl_call co39 rfl (cerr_d) rfl ?_
    rintro _ _ ⟨rfl, hLL⟩
    obtain rfl := hLL.symm
    refine vl_det (det_assign rfl) rfl ?_
    refine vl_end [(2, _)] ⟨rfl, trivial⟩ ?_
    refine then_next ?_
    refine vc_ret ?_
    refine ret1 rfl rfl ?_
    rw [he]; exact ⟨rfl, rfl⟩
  · skip
    have he : s.end' = s := if_neg (by omega)
    refine vc_skip ?_
    refine then_next ?_
    refine vc_seq ?_
    refine vc_region ?_
    refine vl_det (det_move rfl) rfl ?_
    refine vl_call co39 rfl (cerr_d) rfl ?_
    rintro _ _ ⟨rfl, hLL⟩
    obtain rfl := hLL.symm
    refine vl_det (det_assign rfl) rfl ?_
    refine vl_end [(2, _)] ⟨rfl, trivial⟩ ?_
    refine then_next ?_
    refine vc_ret ?_
    refine ret1 rfl rfl ?_
    rw [he]; exact ⟨rfl, rfl⟩
theorem dcat_d : Does Tryz.prog B w0 42 [.pointer (some ⟨g, 0, none⟩)] (Cv g A c s :: F) (fun r L => r = .int .i64 s.at_ ∧ L = Cv g A c s :: F) := by
  refine fn_walk Tryz.func42 10 rfl rfl rfl [(0, .pointer (some ⟨g, 0, none⟩))] ⟨⟨rfl, rfl⟩, trivial⟩ ?_
  refine vc_seq ?_
  refine vc_region ?_
  refine vl_det (det_assign rfl) rfl ?_
  refine vl_end [(0, _)] ⟨rfl, trivial⟩ ?_
  refine then_next ?_
  refine vc_seq ?_
  refine vc_seq ?_
  refine vc_region ?_
  refine vl_det (det_move rfl) rfl ?_
  refine vl_det (det_ptr_nil Tryz.underlying83 rfl rfl) rfl ?_
  refine vl_end [(0, _), (4, _)] ⟨rfl, rfl, trivial⟩ ?_
  refine then_next ?_
  refine vc_cond_f rfl ?_
  refine vc_skip ?_
  refine then_next ?_
  refine vc_seq ?_
  refine vc_region ?_
  refine vl_det (det_move rfl) rfl ?_
  refine vl_det (det_nilCheck rfl) rfl ?_
  refine vl_det (det_fieldAddr_ Tryz.underlying115 rfl (by kernel_rfl) rfl rfl) rfl ?_
  refine vl_det (det_fieldAddr_ Tryz.underlying113 rfl (by kernel_rfl) rfl rfl) rfl ?_
  refine vl_det (det_load_blk (by kernel_rfl) rfl (by repeat (first | exact .hd | apply Sel.tl)) rfl) rfl ?_
  refine vl_det (det_assign rfl) rfl ?_
  refine vl_end [(2, _)] ⟨rfl, trivial⟩ ?_
  refine then_next ?_
  refine vc_ret ?_
  refine ret1 rfl rfl ?_
  exact ⟨rfl, rfl⟩
/-! a dictionary's next text: behind was, first of its bucket or not -/
def nxN (s : Cs) (was : Txt) (first : Bool) : Nat := if first then 0 else s.int was.length
def nxA (s : Cs) (was : Txt) (first : Bool) : Cs := if first then s else s.int' was.length
def nxS (s : Cs) (was : Txt) (first : Bool) : Cs := (nxA s was first).text' 25
def nxX (s : Cs) (was : Txt) (first : Bool) : Txt := was.take (nxN s was first) ++ (nxA s was first).text 25
def nxBad (s : Cs) (was : Txt) (first : Bool) : Prop := (nxA s was first).text 25 = [] ∨ ¬ mayT was (nxX s was first) ∨ (first = false ∧ lcp was (nxX s was first) ≠ nxN s was first)
instance (s : Cs) (was : Txt) (first : Bool) : Decidable (nxBad s was first) := inferInstanceAs (Decidable (_ ∨ _ ∨ (_ ∧ _)))
/-- the cursor behind it -/
def nxC (s : Cs) (was : Txt) (first : Bool) : Cs := if (nxS s was first).e ≠ 0 then nxS s was first else if nxBad s was first then (nxS s was first).failed 2 else nxS s was first
def nxT (s : Cs) (was : Txt) (first : Bool) : Txt := if (nxS s was first).e ≠ 0 then [] else nxX s was first
theorem CsOk.nxA (h : CsOk s) {was : Txt} {first : Bool} (hw : was.length ≤ 1000) : CsOk (nxA s was first) := by
  unfold YtpamjobiohbibaaGreat.nxA; split
  · exact h
  · exact h.int' (by omega)
theorem CsOk.nxC (h : CsOk s) {was : Txt} {first : Bool} (hw : was.length ≤ 1000) : CsOk (nxC s was first) := by
  unfold YtpamjobiohbibaaGreat.nxC nxS
  split
  · exact (h.nxA hw).text'
  · split
    · exact (h.nxA hw).text'.failed 2
    · exact (h.nxA hw).text'
theorem Cs.int'_b (s : Cs) (m : Int) : (s.int' m).b = s.b := Cs.moved_b s _ _
theorem Cs.text'_b (s : Cs) (m : Int) : (s.text' m).b = s.b := Cs.moved_b s _ _
theorem Cs.failed_b (s : Cs) (e : Int) : (s.failed e).b = s.b := by unfold Cs.failed; split <;> rfl
theorem nxA_b (s : Cs) (was : Txt) (first : Bool) : (nxA s was first).b = s.b := by
  unfold nxA; split
  · rfl
  · exact Cs.int'_b _ _
theorem nxC_b (s : Cs) (was : Txt) (first : Bool) : (nxC s was first).b = s.b := by
  unfold nxC nxS
  split
  · rw [Cs.text'_b, nxA_b]
  · split
    · rw [Cs.failed_b, Cs.text'_b, nxA_b]
    · rw [Cs.text'_b, nxA_b]
theorem nxN_le (s : Cs) (was : Txt) (first : Bool) (hw : was.length ≤ 1000) : nxN s was first ≤ was.length := by
  unfold nxN; split
  · omega
  · unfold Cs.int; split
    · omega
    · by_cases h : (limS s.rest was.length).2.2 = 0
      · have := (limS_facts s.rest was.length (by omega)).2.2.2 h; omega
      · rw [(limS_err h).1]; omega
theorem text_le (s : Cs) : (s.text 25).length ≤ 25 := by
  unfold Cs.text; split
  · simp
  · unfold textS; split
    · simp
    · split
      · simp
      · rename_i h1 h2
        have := (limS_facts s.rest 25 (by omega)).2.2.2 (by simpa using h1)
        simp only [List.length_take]
        omega
theorem next1_d {was : Txt} (hw : was.length ≤ 1000) (ho : CsOk s) (hb : Bor B w0 F 1 (.slice A s.b.length c) s.b.length (bv s.b)) :
    Does Tryz.prog B w0 66 [.pointer (some ⟨g, 0, none⟩), .string ⟨was.toArray⟩, .bool true] (Cv g A c s :: F) (fun r L => r = .string ⟨(nxT s was true).toArray⟩ ∧ L = Cv g A c (nxC s was true) :: F) := by
  have hA : nxA s was true = s := rfl
  have hN : nxN s was true = 0 := rfl
  have hS : nxS s was true = s.text' 25 := rfl
  have hX : nxX s was true = s.text 25 := by unfold nxX; rw [hN, hA]; rfl
  have hB : nxBad s was true ↔ (s.text 25 = [] ∨ ¬ mayT was (s.text 25)) := by unfold nxBad; rw [hX, hA]; simp
  have hC : nxC s was true = if (s.text' 25).e ≠ 0 then s.text' 25 else if nxBad s was true then (s.text' 25).failed 2 else s.text' 25 := rfl
  have hT : nxT s was true = if (s.text' 25).e ≠ 0 then [] else s.text 25 := by unfold nxT; rw [hX, hS]
  have htl := text_le s
  rw [hC, hT]
  clear hC hT hS hX hN hA
  refine fn_walk Tryz.func66 48 rfl rfl rfl [(0, .pointer (some ⟨g, 0, none⟩)), (1, .string ⟨was.toArray⟩), (2, .bool true)] ⟨⟨rfl, rfl⟩, ⟨rfl, rfl⟩, ⟨rfl, rfl⟩, trivial⟩ ?_
  refine vc_seq ?_
  refine vc_region ?_
  refine vl_det (det_assign rfl) rfl ?_
  refine vl_end [(0, _), (1, _), (2, _)] ⟨rfl, rfl, rfl, trivial⟩ ?_
  refine then_next ?_
  refine vc_seq ?_
  refine vc_region ?_
  refine vl_det (det_assign rfl) rfl ?_
  refine vl_end [(0, _), (1, _), (2, _), (7, _)] ⟨rfl, rfl, rfl, rfl, trivial⟩ ?_
  refine then_next ?_
  refine vc_seq ?_
  refine vc_seq ?_
  refine vc_region ?_
  refine vl_det (det_move rfl) rfl ?_
  refine vl_det (det_not_t rfl) rfl ?_
  refine vl_end [(0, _), (1, _), (2, _), (7, _), (11, _)] ⟨rfl, rfl, rfl, rfl, rfl, trivial⟩ ?_
  refine then_next ?_
  refine vc_cond_f rfl ?_
  refine vc_skip ?_
  refine then_next ?_
  refine vc_seq ?_
  refine vc_region ?_
  refine vl_det (det_move rfl) rfl ?_
  refine vl_call co78 rfl (ctext_d ho hb (most := 25) (by omega) (by omega)) rfl ?_
  rintro _ _ ⟨rfl, hLL⟩
  obtain rfl := hLL.symm
  refine vl_det (det_assign rfl) rfl ?_
  refine vl_end [(0, _), (1, _), (2, _), (7, _), (8, _)] ⟨rfl, rfl, rfl, rfl, rfl, trivial⟩ ?_
  refine then_next ?_
  refine vc_seq ?_
  refine vc_seq ?_
  refine vc_region ?_
  refine vl_det (det_move rfl) rfl ?_
  refine vl_call co39 rfl (cerr_d) rfl ?_
  rintro _ _ ⟨rfl, hLL⟩
  obtain rfl := hLL.symm
  refine vl_det (det_neq rfl rfl) rfl ?_
  refine vl_end [(0, _), (1, _), (2, _), (7, _), (8, _), (20, _)] ⟨rfl, rfl, rfl, rfl, rfl, rfl, trivial⟩ ?_
  refine then_next ?_
  refine vc_decideU rfl (fun h20 => ?_) (fun h20 => ?_)
  · skip
    refine vc_seq ?_
    refine vc_region ?_
    refine vl_det (det_assign rfl) rfl ?_
    refine vl_end [(6, _)] ⟨rfl, trivial⟩ ?_
    refine then_next ?_
    refine vc_ret ?_
    refine then_ret ?_
    refine ret1 rfl rfl ?_
    exact ⟨by rw [if_pos h20], by rw [if_pos h20]⟩
  · skip
    refine vc_skip ?_
    refine then_next ?_
    refine vc_seq ?_
    refine vc_region ?_
    refine vl_det (det_move rfl) rfl ?_
    refine vl_det (det_move rfl) rfl ?_
    refine vl_det (det_str_hi (i := 0) Tryz.underlying9 rfl rfl rfl (by omega)) rfl ?_
    refine vl_det (det_move rfl) rfl ?_
    refine vl_det (det_s_add (s := []) (r := s.text 25) rfl rfl (by simp only [List.length_nil]; omega)) rfl ?_
    refine vl_det (det_assign rfl) rfl ?_
    refine vl_end [(0, _), (1, _), (2, _), (7, _), (8, _), (9, _)] ⟨rfl, rfl, rfl, rfl, rfl, rfl, trivial⟩ ?_
    refine then_next ?_
    refine vc_seq ?_
    refine vc_seq ?_
    refine vc_region ?_
    refine vl_cut 19 44 [(0, _), (9, _)] (nxBad s was true) ⟨rfl, rfl, trivial⟩ ?_ ?_
    · skip
      refine vl_det (det_move rfl) rfl ?_
      refine vl_det (det_s_eql rfl rfl) rfl ?_
      refine vl_det (det_move rfl) rfl ?_
      refine vl_guardn rfl rfl rfl (fun h28 => ?_) (fun h28 => ?_)
      · skip
        refine vl_det (det_move rfl) rfl ?_
        refine vl_guard_t rfl rfl ?_
        refine vl_det (det_move rfl) rfl ?_
        refine vl_guard_t rfl rfl ?_
        refine vl_call co54 rfl (dmay_d was (s.text 25)) rfl ?_
        rintro _ _ ⟨rfl, hLL⟩
        obtain rfl := hLL.symm
        refine vl_guard_t rfl rfl ?_
        refine vl_det (det_notd rfl) rfl ?_
        refine vl_det (det_pick_f rfl rfl) rfl ?_
        refine vl_det (det_move rfl) rfl ?_
        refine vl_guardn rfl rfl rfl (fun h34 => ?_) (fun h34 => ?_)
        · skip
          refine vl_det (det_move rfl) rfl ?_
          refine vl_guard_t rfl rfl ?_
          refine vl_det (det_not_t rfl) rfl ?_
          refine vl_guard_t rfl rfl ?_
          refine vl_det (det_move rfl) rfl ?_
          refine vl_guard_f rfl rfl rfl rfl ?_
          refine vl_guard_f rfl rfl rfl rfl ?_
          refine vl_guard_f rfl rfl rfl rfl ?_
          refine vl_guard_f rfl rfl rfl rfl ?_
          refine vl_guard_f rfl rfl rfl rfl ?_
          refine vl_guard_t rfl rfl ?_
          refine vl_det (det_pick_f rfl rfl) rfl ?_
          refine vl_det (det_pick_f rfl rfl) rfl ?_
          exact vl_cut_end ⟨rfl, rfl, trivial⟩ (by first | rfl | exact bool_to_t (by first | exact hB.2 (.inl (by assumption)) | exact hB.2 (.inr (by assumption)) | exact fun h => (hB.1 h).elim (fun q => absurd q (by assumption)) (fun q => absurd q (by assumption))) | exact bool_to_f (by first | exact hB.2 (.inl (by assumption)) | exact hB.2 (.inr (by assumption)) | exact fun h => (hB.1 h).elim (fun q => absurd q (by assumption)) (fun q => absurd q (by assumption))) | exact bool_to (by first | exact hB.2 (.inl (by assumption)) | exact hB.2 (.inr (by assumption)) | exact fun h => (hB.1 h).elim (fun q => absurd q (by assumption)) (fun q => absurd q (by assumption))) | exact bool_to_b (by first | exact hB.2 (.inl (by assumption)) | exact hB.2 (.inr (by assumption)) | exact fun h => (hB.1 h).elim (fun q => absurd q (by assumption)) (fun q => absurd q (by assumption))))
        · skip
          refine vl_guard_f rfl rfl rfl rfl ?_
          refine vl_guard_f rfl rfl rfl rfl ?_
          refine vl_guard_u rfl rfl rfl ?_
          refine vl_guard_u rfl rfl rfl ?_
          refine vl_guard_u rfl rfl rfl ?_
          refine vl_guard_u rfl rfl rfl ?_
          refine vl_guard_u rfl rfl rfl ?_
          refine vl_guard_f rfl rfl rfl rfl ?_
          refine vl_det (det_pick_t rfl rfl) rfl ?_
          exact vl_cut_end ⟨rfl, rfl, trivial⟩ (by first | rfl | exact bool_to_t (by first | exact hB.2 (.inl (by assumption)) | exact hB.2 (.inr (by assumption)) | exact fun h => (hB.1 h).elim (fun q => absurd q (by assumption)) (fun q => absurd q (by assumption))) | exact bool_to_f (by first | exact hB.2 (.inl (by assumption)) | exact hB.2 (.inr (by assumption)) | exact fun h => (hB.1 h).elim (fun q => absurd q (by assumption)) (fun q => absurd q (by assumption))) | exact bool_to (by first | exact hB.2 (.inl (by assumption)) | exact hB.2 (.inr (by assumption)) | exact fun h => (hB.1 h).elim (fun q => absurd q (by assumption)) (fun q => absurd q (by assumption))) | exact bool_to_b (by first | exact hB.2 (.inl (by assumption)) | exact hB.2 (.inr (by assumption)) | exact fun h => (hB.1 h).elim (fun q => absurd q (by assumption)) (fun q => absurd q (by assumption))))
      · skip
        refine vl_guard_f rfl rfl rfl rfl ?_
        refine vl_guard_f rfl rfl rfl rfl ?_
        refine vl_guard_f rfl rfl rfl rfl ?_
        refine vl_det (det_pick_t rfl rfl) rfl ?_
        refine vl_det (det_move rfl) rfl ?_
        refine vl_guard_f rfl rfl rfl rfl ?_
        refine vl_guard_f rfl rfl rfl rfl ?_
        refine vl_guard_f rfl rfl rfl rfl ?_
        refine vl_guard_u rfl rfl rfl ?_
        refine vl_guard_u rfl rfl rfl ?_
        refine vl_guard_u rfl rfl rfl ?_
        refine vl_guard_u rfl rfl rfl ?_
        refine vl_guard_u rfl rfl rfl ?_
        refine vl_guard_f rfl rfl rfl rfl ?_
        refine vl_det (det_pick_t rfl rfl) rfl ?_
        exact vl_cut_end ⟨rfl, rfl, trivial⟩ (by first | rfl | exact bool_to_t (by first | exact hB.2 (.inl (by assumption)) | exact hB.2 (.inr (by assumption)) | exact fun h => (hB.1 h).elim (fun q => absurd q (by assumption)) (fun q => absurd q (by assumption))) | exact bool_to_f (by first | exact hB.2 (.inl (by assumption)) | exact hB.2 (.inr (by assumption)) | exact fun h => (hB.1 h).elim (fun q => absurd q (by assumption)) (fun q => absurd q (by assumption))) | exact bool_to (by first | exact hB.2 (.inl (by assumption)) | exact hB.2 (.inr (by assumption)) | exact fun h => (hB.1 h).elim (fun q => absurd q (by assumption)) (fun q => absurd q (by assumption))) | exact bool_to_b (by first | exact hB.2 (.inl (by assumption)) | exact hB.2 (.inr (by assumption)) | exact fun h => (hB.1 h).elim (fun q => absurd q (by assumption)) (fun q => absurd q (by assumption))))
    · skip
      refine vl_end [(0, _), (9, _), (44, _)] ⟨rfl, rfl, rfl, trivial⟩ ?_
      refine then_next ?_
      refine vc_decideU rfl (fun h44 => ?_) (fun h44 => ?_)
      · skip
        refine vc_region ?_
        refine vl_det (det_move rfl) rfl ?_
        refine vl_call co79 rfl (cfail_d 2) rfl ?_
        rintro _ _ ⟨rfl, hLL⟩
        obtain rfl := hLL.symm
        refine vl_end [(9, _)] ⟨rfl, trivial⟩ ?_
        refine then_next ?_
        refine vc_seq ?_
        refine vc_region ?_
        refine vl_det (det_move rfl) rfl ?_
        refine vl_det (det_assign rfl) rfl ?_
        refine vl_end [(6, _)] ⟨rfl, trivial⟩ ?_
        refine then_next ?_
        refine vc_ret ?_
        refine ret1 rfl rfl ?_
        exact ⟨by rw [if_neg h20]; rfl, by rw [if_neg h20, if_pos h44]⟩
      · skip
        refine vc_skip ?_
        refine then_next ?_
        refine vc_seq ?_
        refine vc_region ?_
        refine vl_det (det_move rfl) rfl ?_
        refine vl_det (det_assign rfl) rfl ?_
        refine vl_end [(6, _)] ⟨rfl, trivial⟩ ?_
        refine then_next ?_
        refine vc_ret ?_
        refine ret1 rfl rfl ?_
        exact ⟨by rw [if_neg h20]; rfl, by rw [if_neg h20, if_neg h44]⟩
theorem next2_d {was : Txt} (hw : was.length ≤ 1000) (ho : CsOk s) (hb : Bor B w0 F 1 (.slice A s.b.length c) s.b.length (bv s.b)) :
    Does Tryz.prog B w0 66 [.pointer (some ⟨g, 0, none⟩), .string ⟨was.toArray⟩, .bool false] (Cv g A c s :: F) (fun r L => r = .string ⟨(nxT s was false).toArray⟩ ∧ L = Cv g A c (nxC s was false) :: F) := by
  have hA : nxA s was false = s.int' was.length := rfl
  have hN : nxN s was false = s.int was.length := rfl
  have hS : nxS s was false = (s.int' was.length).text' 25 := rfl
  have hX : nxX s was false = was.take (s.int was.length) ++ (s.int' was.length).text 25 := rfl
  have hB : nxBad s was false ↔ ((s.int' was.length).text 25 = [] ∨ ¬ mayT was (nxX s was false) ∨ lcp was (nxX s was false) ≠ s.int was.length) := by unfold nxBad; rw [hN, hA]; simp
  have hC : nxC s was false = if ((s.int' was.length).text' 25).e ≠ 0 then (s.int' was.length).text' 25 else if nxBad s was false then ((s.int' was.length).text' 25).failed 2 else (s.int' was.length).text' 25 := rfl
  have hT : nxT s was false = if ((s.int' was.length).text' 25).e ≠ 0 then [] else nxX s was false := rfl
  have htl := text_le (s.int' was.length)
  have hnl := nxN_le s was false hw
  have ho2 : CsOk (s.int' was.length) := ho.int' (by omega)
  have hb2 : Bor B w0 F 1 (.slice A (s.int' was.length).b.length c) (s.int' was.length).b.length (bv (s.int' was.length).b) := by rw [Cs.int'_b]; exact hb
  rw [hC, hT]
  rw [hX] at *
  rw [hN] at hnl
  clear hC hT hS hN hA
  refine fn_walk Tryz.func66 48 rfl rfl rfl [(0, .pointer (some ⟨g, 0, none⟩)), (1, .string ⟨was.toArray⟩), (2, .bool false)] ⟨⟨rfl, rfl⟩, ⟨rfl, rfl⟩, ⟨rfl, rfl⟩, trivial⟩ ?_
  refine vc_seq ?_
  refine vc_region ?_
  refine vl_det (det_assign rfl) rfl ?_
  refine vl_end [(0, _), (1, _), (2, _)] ⟨rfl, rfl, rfl, trivial⟩ ?_
  refine then_next ?_
  refine vc_seq ?_
  refine vc_region ?_
  refine vl_det (det_assign rfl) rfl ?_
  refine vl_end [(0, _), (1, _), (2, _), (7, _)] ⟨rfl, rfl, rfl, rfl, trivial⟩ ?_
  refine then_next ?_
  refine vc_seq ?_
  refine vc_seq ?_
  refine vc_region ?_
  refine vl_det (det_move rfl) rfl ?_
  refine vl_det (det_not_f rfl) rfl ?_
  refine vl_end [(0, _), (1, _), (2, _), (7, _), (11, _)] ⟨rfl, rfl, rfl, rfl, rfl, trivial⟩ ?_
  refine then_next ?_
  refine vc_cond_t rfl ?_
  refine vc_region ?_
  refine vl_det (det_move rfl) rfl ?_
  refine vl_det (det_move rfl) rfl ?_
  refine vl_det (det_len_s Tryz.underlying9 rfl) rfl ?_
  refine vl_call co38 rfl (cint_d ho hb (most := was.length) (by omega) (by omega)) rfl ?_
  rintro _ _ ⟨rfl, hLL⟩
  obtain rfl := hLL.symm
  refine vl_det (det_assign rfl) rfl ?_
  refine vl_end [(0, _), (1, _), (2, _), (7, _)] ⟨rfl, rfl, rfl, rfl, trivial⟩ ?_
  refine then_next ?_
  refine vc_seq ?_
  refine vc_region ?_
  refine vl_det (det_move rfl) rfl ?_
  refine vl_call co78 rfl (ctext_d ho2 hb2 (most := 25) (by omega) (by omega)) rfl ?_
  rintro _ _ ⟨rfl, hLL⟩
  obtain rfl := hLL.symm
  refine vl_det (det_assign rfl) rfl ?_
  refine vl_end [(0, _), (1, _), (2, _), (7, _), (8, _)] ⟨rfl, rfl, rfl, rfl, rfl, trivial⟩ ?_
  refine then_next ?_
  refine vc_seq ?_
  refine vc_seq ?_
  refine vc_region ?_
  refine vl_det (det_move rfl) rfl ?_
  refine vl_call co39 rfl (cerr_d) rfl ?_
  rintro _ _ ⟨rfl, hLL⟩
  obtain rfl := hLL.symm
  refine vl_det (det_neq rfl rfl) rfl ?_
  refine vl_end [(0, _), (1, _), (2, _), (7, _), (8, _), (20, _)] ⟨rfl, rfl, rfl, rfl, rfl, rfl, trivial⟩ ?_
  refine then_next ?_
  refine vc_decideU rfl (fun h20 => ?_) (fun h20 => ?_)
  · skip
    refine vc_seq ?_
    refine vc_region ?_
    refine vl_det (det_assign rfl) rfl ?_
    refine vl_end [(6, _)] ⟨rfl, trivial⟩ ?_
    refine then_next ?_
    refine vc_ret ?_
    refine then_ret ?_
    refine ret1 rfl rfl ?_
    exact ⟨by rw [if_pos h20], by rw [if_pos h20]⟩
  · skip
    refine vc_skip ?_
    refine then_next ?_
    refine vc_seq ?_
    refine vc_region ?_
    refine vl_det (det_move rfl) rfl ?_
    refine vl_det (det_move rfl) rfl ?_
    refine vl_det (det_str_hi (i := s.int was.length) Tryz.underlying9 rfl rfl rfl (by omega)) rfl ?_
    refine vl_det (det_move rfl) rfl ?_
    refine vl_det (det_s_add (s := was.take (s.int was.length)) (r := (s.int' was.length).text 25) rfl rfl (by simp only [List.length_take]; omega)) rfl ?_
    refine vl_det (det_assign rfl) rfl ?_
    refine vl_end [(0, _), (1, _), (2, _), (7, _), (8, _), (9, _)] ⟨rfl, rfl, rfl, rfl, rfl, rfl, trivial⟩ ?_
    refine then_next ?_
    refine vc_seq ?_
    refine vc_seq ?_
    refine vc_region ?_
    refine vl_cut 19 44 [(0, _), (9, _)] (nxBad s was false) ⟨rfl, rfl, trivial⟩ ?_ ?_
    · skip
      refine vl_det (det_move rfl) rfl ?_
      refine vl_det (det_s_eql rfl rfl) rfl ?_
      refine vl_det (det_move rfl) rfl ?_
      refine vl_guardn rfl rfl rfl (fun h28 => ?_) (fun h28 => ?_)
      · skip
        refine vl_det (det_move rfl) rfl ?_
        refine vl_guard_t rfl rfl ?_
        refine vl_det (det_move rfl) rfl ?_
        refine vl_guard_t rfl rfl ?_
        refine vl_call co54 rfl (dmay_d was (was.take (s.int was.length) ++ (s.int' was.length).text 25)) rfl ?_
        rintro _ _ ⟨rfl, hLL⟩
        obtain rfl := hLL.symm
        refine vl_guard_t rfl rfl ?_
        refine vl_det (det_notd rfl) rfl ?_
        refine vl_det (det_pick_f rfl rfl) rfl ?_
        refine vl_det (det_move rfl) rfl ?_
        refine vl_guardn rfl rfl rfl (fun h34 => ?_) (fun h34 => ?_)
        · skip
          refine vl_det (det_move rfl) rfl ?_
          refine vl_guard_t rfl rfl ?_
          refine vl_det (det_not_f rfl) rfl ?_
          refine vl_guard_t rfl rfl ?_
          refine vl_det (det_move rfl) rfl ?_
          refine vl_guard_t rfl rfl ?_
          refine vl_det (det_move rfl) rfl ?_
          refine vl_guard_t rfl rfl ?_
          refine vl_det (det_move rfl) rfl ?_
          refine vl_guard_t rfl rfl ?_
          refine vl_call co57 rfl (dsame_d was (was.take (s.int was.length) ++ (s.int' was.length).text 25) (by omega)) rfl ?_
          rintro _ _ ⟨rfl, hLL⟩
          obtain rfl := hLL.symm
          refine vl_guard_t rfl rfl ?_
          refine vl_det (det_move rfl) rfl ?_
          refine vl_guard_t rfl rfl ?_
          refine vl_det (det_neq rfl rfl) rfl ?_
          refine vl_guard_t rfl rfl ?_
          refine vl_det (det_pick_t rfl rfl) rfl ?_
          refine vl_det (det_pick_f rfl rfl) rfl ?_
          exact vl_cut_end ⟨rfl, rfl, trivial⟩ (by first | rfl | exact bool_to_t (by first | exact hB.2 (.inl (by assumption)) | exact hB.2 (.inr (.inl (by assumption))) | exact ⟨fun h => hB.2 (.inr (.inr (by omega))), fun h => (hB.1 h).elim (fun q => absurd q (by assumption)) (fun q => q.elim (fun q => absurd q (by assumption)) (fun q => by omega))⟩) | exact bool_to_f (by first | exact hB.2 (.inl (by assumption)) | exact hB.2 (.inr (.inl (by assumption))) | exact ⟨fun h => hB.2 (.inr (.inr (by omega))), fun h => (hB.1 h).elim (fun q => absurd q (by assumption)) (fun q => q.elim (fun q => absurd q (by assumption)) (fun q => by omega))⟩) | exact bool_to (by first | exact hB.2 (.inl (by assumption)) | exact hB.2 (.inr (.inl (by assumption))) | exact ⟨fun h => hB.2 (.inr (.inr (by omega))), fun h => (hB.1 h).elim (fun q => absurd q (by assumption)) (fun q => q.elim (fun q => absurd q (by assumption)) (fun q => by omega))⟩) | exact bool_to_b (by first | exact hB.2 (.inl (by assumption)) | exact hB.2 (.inr (.inl (by assumption))) | exact ⟨fun h => hB.2 (.inr (.inr (by omega))), fun h => (hB.1 h).elim (fun q => absurd q (by assumption)) (fun q => q.elim (fun q => absurd q (by assumption)) (fun q => by omega))⟩))
        · skip
          refine vl_guard_f rfl rfl rfl rfl ?_
          refine vl_guard_f rfl rfl rfl rfl ?_
          refine vl_guard_u rfl rfl rfl ?_
          refine vl_guard_u rfl rfl rfl ?_
          refine vl_guard_u rfl rfl rfl ?_
          refine vl_guard_u rfl rfl rfl ?_
          refine vl_guard_u rfl rfl rfl ?_
          refine vl_guard_f rfl rfl rfl rfl ?_
          refine vl_det (det_pick_t rfl rfl) rfl ?_
          exact vl_cut_end ⟨rfl, rfl, trivial⟩ (by first | rfl | exact bool_to_t (by first | exact hB.2 (.inl (by assumption)) | exact hB.2 (.inr (.inl (by assumption))) | exact ⟨fun h => hB.2 (.inr (.inr (by omega))), fun h => (hB.1 h).elim (fun q => absurd q (by assumption)) (fun q => q.elim (fun q => absurd q (by assumption)) (fun q => by omega))⟩) | exact bool_to_f (by first | exact hB.2 (.inl (by assumption)) | exact hB.2 (.inr (.inl (by assumption))) | exact ⟨fun h => hB.2 (.inr (.inr (by omega))), fun h => (hB.1 h).elim (fun q => absurd q (by assumption)) (fun q => q.elim (fun q => absurd q (by assumption)) (fun q => by omega))⟩) | exact bool_to (by first | exact hB.2 (.inl (by assumption)) | exact hB.2 (.inr (.inl (by assumption))) | exact ⟨fun h => hB.2 (.inr (.inr (by omega))), fun h => (hB.1 h).elim (fun q => absurd q (by assumption)) (fun q => q.elim (fun q => absurd q (by assumption)) (fun q => by omega))⟩) | exact bool_to_b (by first | exact hB.2 (.inl (by assumption)) | exact hB.2 (.inr (.inl (by assumption))) | exact ⟨fun h => hB.2 (.inr (.inr (by omega))), fun h => (hB.1 h).elim (fun q => absurd q (by assumption)) (fun q => q.elim (fun q => absurd q (by assumption)) (fun q => by omega))⟩))
      · skip
        refine vl_guard_f rfl rfl rfl rfl ?_
        refine vl_guard_f rfl rfl rfl rfl ?_
        refine vl_guard_f rfl rfl rfl rfl ?_
        refine vl_det (det_pick_t rfl rfl) rfl ?_
        refine vl_det (det_move rfl) rfl ?_
        refine vl_guard_f rfl rfl rfl rfl ?_
        refine vl_guard_f rfl rfl rfl rfl ?_
        refine vl_guard_f rfl rfl rfl rfl ?_
        refine vl_guard_u rfl rfl rfl ?_
        refine vl_guard_u rfl rfl rfl ?_
        refine vl_guard_u rfl rfl rfl ?_
        refine vl_guard_u rfl rfl rfl ?_
        refine vl_guard_u rfl rfl rfl ?_
        refine vl_guard_f rfl rfl rfl rfl ?_
        refine vl_det (det_pick_t rfl rfl) rfl ?_
        exact vl_cut_end ⟨rfl, rfl, trivial⟩ (by first | rfl | exact bool_to_t (by first | exact hB.2 (.inl (by assumption)) | exact hB.2 (.inr (.inl (by assumption))) | exact ⟨fun h => hB.2 (.inr (.inr (by omega))), fun h => (hB.1 h).elim (fun q => absurd q (by assumption)) (fun q => q.elim (fun q => absurd q (by assumption)) (fun q => by omega))⟩) | exact bool_to_f (by first | exact hB.2 (.inl (by assumption)) | exact hB.2 (.inr (.inl (by assumption))) | exact ⟨fun h => hB.2 (.inr (.inr (by omega))), fun h => (hB.1 h).elim (fun q => absurd q (by assumption)) (fun q => q.elim (fun q => absurd q (by assumption)) (fun q => by omega))⟩) | exact bool_to (by first | exact hB.2 (.inl (by assumption)) | exact hB.2 (.inr (.inl (by assumption))) | exact ⟨fun h => hB.2 (.inr (.inr (by omega))), fun h => (hB.1 h).elim (fun q => absurd q (by assumption)) (fun q => q.elim (fun q => absurd q (by assumption)) (fun q => by omega))⟩) | exact bool_to_b (by first | exact hB.2 (.inl (by assumption)) | exact hB.2 (.inr (.inl (by assumption))) | exact ⟨fun h => hB.2 (.inr (.inr (by omega))), fun h => (hB.1 h).elim (fun q => absurd q (by assumption)) (fun q => q.elim (fun q => absurd q (by assumption)) (fun q => by omega))⟩))
    · skip
      refine vl_end [(0, _), (9, _), (44, _)] ⟨rfl, rfl, rfl, trivial⟩ ?_
      refine then_next ?_
      refine vc_decideU rfl (fun h44 => ?_) (fun h44 => ?_)
      · skip
        refine vc_region ?_
        refine vl_det (det_move rfl) rfl ?_
        refine vl_call co79 rfl (cfail_d 2) rfl ?_
        rintro _ _ ⟨rfl, hLL⟩
        obtain rfl := hLL.symm
        refine vl_end [(9, _)] ⟨rfl, trivial⟩ ?_
        refine then_next ?_
        refine vc_seq ?_
        refine vc_region ?_
        refine vl_det (det_move rfl) rfl ?_
        refine vl_det (det_assign rfl) rfl ?_
        refine vl_end [(6, _)] ⟨rfl, trivial⟩ ?_
        refine then_next ?_
        refine vc_ret ?_
        refine ret1 rfl rfl ?_
        exact ⟨by rw [if_neg h20], by rw [if_neg h20, if_pos h44]⟩
      · skip
        refine vc_skip ?_
        refine then_next ?_
        refine vc_seq ?_
        refine vc_region ?_
        refine vl_det (det_move rfl) rfl ?_
        refine vl_det (det_assign rfl) rfl ?_
        refine vl_end [(6, _)] ⟨rfl, trivial⟩ ?_
        refine then_next ?_
        refine vc_ret ?_
        refine ret1 rfl rfl ?_
        exact ⟨by rw [if_neg h20], by rw [if_neg h20, if_neg h44]⟩
end Go.Proofs.YtpamjobiohbibaaGreat
namespace Go.Proofs.YtpamjobiohbibaaGreat
open Go.RowKit
set_option linter.unusedVariables false
set_option maxRecDepth 20000
variable {B : Nat} {w0 : World} {F : List Ch} {A A1 A2 : Option Addr} {n c c1 c2 g : Nat} {s : Cs}
theorem next_d {was : Txt} (first : Bool) (hw : was.length ≤ 1000) (ho : CsOk s) (hb : Bor B w0 F 1 (.slice A s.b.length c) s.b.length (bv s.b)) :
    Does Tryz.prog B w0 66 [.pointer (some ⟨g, 0, none⟩), .string ⟨was.toArray⟩, .bool first] (Cv g A c s :: F) (fun r L => r = .string ⟨(nxT s was first).toArray⟩ ∧ L = Cv g A c (nxC s was first) :: F) := by
  cases first
  · exact next2_d hw ho hb
  · exact next1_d hw ho hb
theorem nx_ok {was : Txt} {first : Bool} (h : (nxC s was first).e = 0) : (nxS s was first).e = 0 ∧ ¬ nxBad s was first ∧ nxC s was first = nxS s was first ∧ nxT s was first = nxX s was first := by
  unfold nxC at h ⊢
  by_cases h1 : (nxS s was first).e ≠ 0
  · rw [if_pos h1] at h; exact absurd h h1
  · rw [if_neg h1] at h ⊢
    have h1' : (nxS s was first).e = 0 := by simpa using h1
    by_cases h2 : nxBad s was first
    · rw [if_pos h2] at h
      unfold Cs.failed at h
      rw [if_pos h1'] at h
      exact absurd h (by simp)
    · rw [if_neg h2]
      exact ⟨h1', h2, rfl, if_neg h1⟩
theorem nx_may {was : Txt} {first : Bool} (h : (nxC s was first).e = 0) : mayT was (nxT s was first) := by
  obtain ⟨_, h2, _, h4⟩ := nx_ok h
  rw [h4]
  exact Classical.not_not.1 fun h => h2 (.inr (.inl h))
/-- a bucket's texts behind those that there are, or the error -/
def fillF : Nat → Bool → Cs → List Txt → List Txt × Int
  | 0, _, s, out => if s.end'.e ≠ 0 then ([], s.end'.e) else (out, 0)
  | k + 1, first, s, out => if (nxC s (prvT out out.length) first).e ≠ 0 then ([], (nxC s (prvT out out.length) first).e) else fillF k false (nxC s (prvT out out.length) first) (out ++ [nxT s (prvT out out.length) first])
def Le25 (l : List Txt) : Prop := ∀ x ∈ l, x.length ≤ 25
theorem Le25.prv {l : List Txt} (h : Le25 l) (i : Nat) : (prvT l i).length ≤ 25 := by
  unfold prvT
  split
  · simp
  · rw [List.getD_eq_getElem?_getD]
    by_cases hi : i - 1 < l.length
    · rw [List.getElem?_eq_getElem hi]; exact h _ (List.getElem_mem _)
    · rw [List.getElem?_eq_none (by omega)]; simp
theorem Le25.snoc {l : List Txt} (h : Le25 l) {x : Txt} (hx : x.length ≤ 25) : Le25 (l ++ [x]) := by
  intro y hy
  simp only [List.mem_append, List.mem_singleton] at hy
  rcases hy with hy | rfl
  · exact h y hy
  · exact hx
abbrev Dd (g : Nat) (sz : Int) (A1 : Option Addr) (c1 : Nat) (A2 : Option Addr) (c2 : Nat) (o h : List Txt) (F : List Ch) : List Ch :=
  .blk g 90 [.slice A1 o.length c1, .int .i64 sz, .slice A2 h.length c2] :: .own 9 1 A1 o.length c1 (strs o) :: .own 9 1 A2 h.length c2 (strs h) :: F
theorem getD_app {l r : List Txt} {i : Nat} (h : i < l.length) : (l ++ r).getD i [] = l.getD i [] := by simp [List.getD, List.getElem?_append_left h]
theorem fill_d {b : List UInt8} {m : Nat} {sz : Int} {o0 h0 : List Txt} (hm : 1 ≤ m) (hm2 : m ≤ 64) (hb : Bor B w0 (Dd g sz A1 c1 A2 c2 o0 h0 F) 1 (.slice A b.length c) b.length (bv b)) (hbl : b.length ≤ 1099511627776) (h25 : Le25 o0) (hol : o0.length ≤ 2000000) (hhl : h0.length ≤ 2000000) :
    Does Tryz.prog B w0 41 [.pointer (some ⟨g, 0, none⟩), .slice A b.length c, .int .i64 m] (Dd g sz A1 c1 A2 c2 o0 h0 F) (fun r L => ∃ P1 p1 P2 p2 o h, r = .int .i64 (fillF m true ⟨b, 0, 0⟩ o0).2 ∧ L = Dd g sz P1 p1 P2 p2 o h F ∧ ((fillF m true ⟨b, 0, 0⟩ o0).2 = 0 → o = (fillF m true ⟨b, 0, 0⟩ o0).1 ∧ h = h0 ++ [o.getD o0.length []] ∧ Le25 o ∧ o.length = o0.length + m)) := by
  obtain ⟨G, hG⟩ : ∃ G, G = fillF m true ⟨b, 0, 0⟩ o0 := ⟨_, rfl⟩
  rw [← hG]
  refine fn_walk Tryz.func41 76 rfl rfl rfl [(0, .pointer (some ⟨g, 0, none⟩)), (1, .slice A b.length c), (2, .int .i64 m)] ⟨⟨rfl, rfl⟩, ⟨rfl, rfl⟩, ⟨rfl, rfl⟩, trivial⟩ ?_
  refine vc_seq ?_
  refine vc_region ?_
  refine vl_det (det_assign rfl) rfl ?_
  refine vl_end [(0, _), (1, _), (2, _)] ⟨rfl, rfl, rfl, trivial⟩ ?_
  refine then_next ?_
  refine vc_seq ?_
  refine vc_region ?_
  refine vl_det (det_move rfl) rfl ?_
  refine vl_call co37 rfl (cnew_d hb hbl) rfl ?_
  rintro _ _ ⟨g13, A13, c13, rfl, hLL⟩
  obtain rfl := hLL.symm
  refine vl_det (det_assign rfl) rfl ?_
  refine vl_end [(0, _), (2, _), (7, _)] ⟨rfl, rfl, rfl, trivial⟩ ?_
  refine then_next ?_
  refine vc_seq ?_
  refine vc_seq ?_
  refine vc_region ?_
  refine vl_det (det_move rfl) rfl ?_
  refine vl_det (det_move rfl) rfl ?_
  refine vl_end [(0, _), (7, _), (14, _), (15, _)] ⟨rfl, rfl, rfl, rfl, trivial⟩ ?_
  refine then_next ?_
  refine vc_block ?_
  refine vc_loopJ (fun zf zL zm => ∃ (i : Nat) (s : Cs) (o h : List Txt) (P1 : Option Addr) (p1 : Nat) (P2 : Option Addr) (p2 : Nat), (i ≤ m ∧ CsOk s ∧ o.length = o0.length + i ∧ Le25 o ∧ (i = 0 → h = h0) ∧ (0 < i → h = h0 ++ [o.getD o0.length []]) ∧ fillF (m - i) (decide ((i : Int) = 0)) s o = G) ∧ m - i = zm ∧ Sub zf [(0, .pointer (some ⟨g, 0, none⟩)), (7, .pointer (some ⟨g13, 0, none⟩)), (14, .int .i64 m), (15, .int .i64 i)] ∧ Wk zL (Cv g13 A13 c13 s :: .own 5 1 A13 s.b.length c13 (bv s.b) :: Dd g sz P1 p1 P2 p2 o h F)) _ ⟨0, ⟨b, 0, 0⟩, o0, h0, A1, c1, A2, c2, ⟨Nat.zero_le _, ⟨Nat.zero_le _, hbl⟩, rfl, h25, fun _ => rfl, fun h => absurd h (by omega), hG.symm⟩, rfl, ⟨(by first | rfl | exact int_to (by omega) | exact sl_to (by omega)), (by first | rfl | exact int_to (by omega) | exact sl_to (by omega)), (by first | rfl | exact int_to (by omega) | exact sl_to (by omega)), (by first | rfl | exact int_to (by omega) | exact sl_to (by omega)), trivial⟩, .refl _⟩ ?_
  rintro _ _ _ ⟨i, s, o, h, P1, p1, P2, p2, ⟨hi, ho, hoo, ho25, hh0, hh1, hF⟩, rfl, hs, hp⟩
  refine vc_weaken _ hs (vc_wk hp ?_)
  clear hs hp
  refine vc_seq ?_
  refine vc_region ?_
  refine vl_det (det_lss rfl rfl) rfl ?_
  refine vl_end [(0, _), (7, _), (14, _), (15, _), (16, _)] ⟨rfl, rfl, rfl, rfl, rfl, trivial⟩ ?_
  refine then_next ?_
  refine vc_seq ?_
  refine vc_decideU rfl (fun h16 => ?_) (fun h16 => ?_)
  · skip
    obtain ⟨k, hk⟩ : ∃ k, m - i = k + 1 := ⟨m - i - 1, by omega⟩
    rw [hk, fillF] at hF
    have hpl := ho25.prv o.length
    have hhl2 : h.length ≤ 2000001 := by
      by_cases h0i : i = 0
      · rw [hh0 h0i]; omega
      · rw [hh1 (by omega)]; simp; omega
    refine vc_skip ?_
    refine then_next ?_
    refine vc_seq ?_
    refine vc_block ?_
    refine vc_seq ?_
    refine vc_region ?_
    refine vl_det (det_move rfl) rfl ?_
    refine vl_det (det_assign rfl) rfl ?_
    refine vl_end [(0, _), (7, _), (8, _), (14, _), (15, _)] ⟨rfl, rfl, rfl, rfl, rfl, trivial⟩ ?_
    refine then_next ?_
    refine vc_seq ?_
    refine vc_region ?_
    refine vl_det (det_assign rfl) rfl ?_
    refine vl_end [(0, _), (7, _), (8, _), (9, _), (14, _), (15, _)] ⟨rfl, rfl, rfl, rfl, rfl, rfl, trivial⟩ ?_
    refine then_next ?_
    refine vc_seqJ (fun zf zL => Sub zf [(0, .pointer (some ⟨g, 0, none⟩)), (7, .pointer (some ⟨g13, 0, none⟩)), (8, .int .i64 i), (9, .string ⟨(prvT o o.length).toArray⟩), (14, .int .i64 m), (15, .int .i64 i)] ∧ Wk zL (Cv g13 A13 c13 s :: .own 5 1 A13 s.b.length c13 (bv s.b) :: Dd g sz P1 p1 P2 p2 o h F)) ?_ ?_
    · skip
      refine vc_seq ?_
      refine vc_region ?_
      refine vl_det (det_move rfl) rfl ?_
      refine vl_det (det_nilCheck rfl) rfl ?_
      refine vl_det (det_fieldAddr_ Tryz.underlying90 rfl (by kernel_rfl) rfl rfl) rfl ?_
      refine vl_det (det_fieldAddr_ Tryz.underlying88 rfl (by kernel_rfl) rfl rfl) rfl ?_
      refine vl_det (det_load_blk (by kernel_rfl) rfl (by repeat (first | exact .hd | apply Sel.tl)) rfl) rfl ?_
      refine vl_det (det_len_sl Tryz.underlying22 rfl) rfl ?_
      refine vl_det (det_gtr rfl rfl) rfl ?_
      refine vl_end [(0, _), (7, _), (8, _), (9, _), (14, _), (15, _), (24, _)] ⟨rfl, rfl, rfl, rfl, rfl, rfl, rfl, trivial⟩ ?_
      refine then_next ?_
      refine vc_decideU rfl (fun h24 => ?_) (fun h24 => ?_)
      · skip
        have hlst : o.getD (o.length - 1) [] = prvT o o.length := (if_neg (by omega)).symm
        refine vq_region (by kernel_rfl) (by kernel_rfl) ?_
        refine vq_det (det_move rfl) rfl ?_
        refine vq_det (det_nilCheck rfl) rfl ?_
        refine vq_det (det_fieldAddr_ Tryz.underlying90 rfl (by kernel_rfl) rfl rfl) rfl ?_
        refine vq_det (det_fieldAddr_ Tryz.underlying88 rfl (by kernel_rfl) rfl rfl) rfl ?_
        refine vq_det (det_load_blk (by kernel_rfl) rfl (by repeat (first | exact .hd | apply Sel.tl)) rfl) rfl ?_
        refine vq_det (det_move rfl) rfl ?_
        refine vq_det (det_nilCheck rfl) rfl ?_
        refine vq_det (det_fieldAddr_ Tryz.underlying90 rfl (by kernel_rfl) rfl rfl) rfl ?_
        refine vq_det (det_fieldAddr_ Tryz.underlying88 rfl (by kernel_rfl) rfl rfl) rfl ?_
        refine vq_det (det_load_blk (by kernel_rfl) rfl (by repeat (first | exact .hd | apply Sel.tl)) rfl) rfl ?_
        refine vq_det (det_len_sl Tryz.underlying22 rfl) rfl ?_
        refine vq_det (det_sub rfl rfl (w_i64 (by omega) (by omega))) rfl ?_
        refine vq_det (det_indexAddr (i := o.length - 1) (size := 1) Tryz.underlying22 (by kernel_rfl) rfl rfl (by omega) (by omega) (by first | (exact Bor.own (by repeat (first | exact List.Mem.head _ | apply List.Mem.tail))) | (repeat (first | assumption | apply Bor.cons)))) rfl ?_
        refine vq_det (det_load_str (b := o) (j := o.length - 1) (by kernel_rfl) rfl (by first | (exact Bor.own (by repeat (first | exact List.Mem.head _ | apply List.Mem.tail))) | (repeat (first | assumption | apply Bor.cons))) (by omega)) rfl ?_
        rw [hlst]
        refine vq_det (det_assign rfl) rfl ?_
        refine vq_end [(0, _), (7, _), (8, _), (9, _), (14, _), (15, _)] ⟨rfl, rfl, rfl, rfl, rfl, rfl, trivial⟩ ?_
        exact in_join ⟨⟨(by first | rfl | exact int_to (by omega) | exact sl_to (by omega)), (by first | rfl | exact int_to (by omega) | exact sl_to (by omega)), (by first | rfl | exact int_to (by omega) | exact sl_to (by omega)), (by first | rfl | exact int_to (by omega) | exact sl_to (by omega)), (by first | rfl | exact int_to (by omega) | exact sl_to (by omega)), (by first | rfl | exact int_to (by omega) | exact sl_to (by omega)), trivial⟩, .refl _⟩
      · skip
        have hlst : prvT o o.length = [] := if_pos (by omega)
        refine vc_skip ?_
        rw [hlst]
        exact in_join ⟨⟨(by first | rfl | exact int_to (by omega) | exact sl_to (by omega)), (by first | rfl | exact int_to (by omega) | exact sl_to (by omega)), (by first | rfl | exact int_to (by omega) | exact sl_to (by omega)), (by first | rfl | exact int_to (by omega) | exact sl_to (by omega)), (by first | rfl | exact int_to (by omega) | exact sl_to (by omega)), (by first | rfl | exact int_to (by omega) | exact sl_to (by omega)), trivial⟩, .refl _⟩
    · rintro _ _ ⟨hs, hp⟩
      refine vc_weaken _ hs (vc_wk hp ?_)
      clear hs hp
      refine vc_seq ?_
      refine vc_region ?_
      refine vl_det (det_move rfl) rfl ?_
      refine vl_det (det_move rfl) rfl ?_
      refine vl_det (det_move rfl) rfl ?_
      refine vl_det (det_eql rfl rfl) rfl ?_
      refine vl_call co66 rfl (next_d (decide ((i : Int) = 0)) (was := prvT o o.length) (by omega) ho (by first | (exact Bor.own (by repeat (first | exact List.Mem.head _ | apply List.Mem.tail))) | (repeat (first | assumption | apply Bor.cons)))) rfl ?_
      rintro _ _ ⟨rfl, hLL⟩
      obtain rfl := hLL.symm
      refine vl_det (det_assign rfl) rfl ?_
      refine vl_end [(0, _), (7, _), (8, _), (10, _), (14, _), (15, _)] ⟨rfl, rfl, rfl, rfl, rfl, rfl, trivial⟩ ?_
      refine then_next ?_
      refine vc_seq ?_
      refine vc_seq ?_
      refine vc_region ?_
      refine vl_det (det_move rfl) rfl ?_
      refine vl_call co39 rfl (cerr_d) rfl ?_
      rintro _ _ ⟨rfl, hLL⟩
      obtain rfl := hLL.symm
      refine vl_det (det_assign rfl) rfl ?_
      refine vl_end [(0, _), (7, _), (8, _), (10, _), (11, _), (14, _), (15, _)] ⟨rfl, rfl, rfl, rfl, rfl, rfl, rfl, trivial⟩ ?_
      refine then_next ?_
      refine vc_seq ?_
      refine vc_region ?_
      refine vl_det (det_move rfl) rfl ?_
      refine vl_det (det_neq rfl rfl) rfl ?_
      refine vl_end [(0, _), (7, _), (8, _), (10, _), (11, _), (14, _), (15, _), (47, _)] ⟨rfl, rfl, rfl, rfl, rfl, rfl, rfl, rfl, trivial⟩ ?_
      refine then_next ?_
      refine vc_decideU rfl (fun h47 => ?_) (fun h47 => ?_)
      · skip
        rw [if_pos h47] at hF
        refine vc_seq ?_
        refine vc_region ?_
        refine vl_det (det_move rfl) rfl ?_
        refine vl_det (det_assign rfl) rfl ?_
        refine vl_end [(6, _)] ⟨rfl, trivial⟩ ?_
        refine then_next ?_
        refine vc_ret ?_
        refine then_ret ?_
        refine in_ret ?_
        refine then_ret ?_
        refine loop_ret ?_
        refine in_ret ?_
        refine then_ret ?_
        refine ret_wk (L' := Dd g sz P1 p1 P2 p2 o h F) (.skip (.skip (.refl _))) ?_
        refine ret1 rfl rfl ?_
        exact ⟨P1, p1, P2, p2, o, h, by rw [← hF], rfl, fun h => by rw [← hF] at h; exact absurd h h47⟩
      · skip
        rw [if_neg h47] at hF
        have h0 : (nxC s (prvT o o.length) (decide ((i : Int) = 0))).e = 0 := by omega
        have hmay := nx_may h0
        have hbb := nxC_b s (prvT o o.length) (decide ((i : Int) = 0))
        have hoC : CsOk (nxC s (prvT o o.length) (decide ((i : Int) = 0))) := ho.nxC (by omega)
        have hel : o.length + 1 = (o ++ [nxT s (prvT o o.length) (decide ((i : Int) = 0))]).length := by simp
        refine vc_skip ?_
        refine then_next ?_
        refine vc_seq ?_
        refine vc_region ?_
        refine vl_det (det_move rfl) rfl ?_
        refine vl_det (det_move rfl) rfl ?_
        refine vl_det (det_nilCheck rfl) rfl ?_
        refine vl_det (det_fieldAddr_ Tryz.underlying90 rfl (by kernel_rfl) rfl rfl) rfl ?_
        refine vl_det (det_fieldAddr_ Tryz.underlying88 rfl (by kernel_rfl) rfl rfl) rfl ?_
        refine vl_det (det_load_blk (by kernel_rfl) rfl (by repeat (first | exact .hd | apply Sel.tl)) rfl) rfl ?_
        refine vl_det (det_move rfl) rfl ?_
        refine vl_push slT22 rfl rfl rfl rfl rfl (fun _ => rfl) (by repeat (first | exact .hd | apply Sel.tl)) (by omega) (by omega) ?_
        intro _ A57 c57
        refine vl_det (det_nilCheck rfl) rfl ?_
        refine vl_det (det_fieldAddr_ Tryz.underlying90 rfl (by kernel_rfl) rfl rfl) rfl ?_
        refine vl_det (det_fieldAddr_ Tryz.underlying88 rfl (by kernel_rfl) rfl rfl) rfl ?_
        refine vl_eff0 (eff_store (by kernel_rfl) rfl rfl rfl (by repeat (first | exact .hd | apply Sel.tl)) (by simp)) ?_
        rintro _ _ rfl
        refine vl_end [(0, _), (7, _), (8, _), (10, _), (14, _), (15, _)] ⟨rfl, rfl, rfl, rfl, rfl, rfl, trivial⟩ ?_
        refine then_next ?_
        refine vc_seq ?_
        refine vc_region ?_
        refine vl_det (det_move rfl) rfl ?_
        refine vl_det (det_eql rfl rfl) rfl ?_
        refine vl_end [(0, _), (7, _), (10, _), (14, _), (15, _), (62, _)] ⟨rfl, rfl, rfl, rfl, rfl, rfl, trivial⟩ ?_
        refine then_next ?_
        refine vc_decideU rfl (fun h62 => ?_) (fun h62 => ?_)
        · skip
          refine vc_region ?_
          refine vl_det (det_move rfl) rfl ?_
          refine vl_det (det_move rfl) rfl ?_
          refine vl_det (det_nilCheck rfl) rfl ?_
          refine vl_det (det_fieldAddr_ Tryz.underlying90 rfl (by kernel_rfl) rfl rfl) rfl ?_
          refine vl_det (det_load_blk (by kernel_rfl) rfl (by repeat (first | exact .hd | apply Sel.tl)) rfl) rfl ?_
          refine vl_det (det_move rfl) rfl ?_
          refine vl_push slT22 rfl rfl rfl rfl rfl (fun _ => rfl) (by repeat (first | exact .hd | apply Sel.tl)) (by omega) (by omega) ?_
          intro _ A70 c70
          refine vl_det (det_nilCheck rfl) rfl ?_
          refine vl_det (det_fieldAddr_ Tryz.underlying90 rfl (by kernel_rfl) rfl rfl) rfl ?_
          refine vl_eff0 (eff_store (by kernel_rfl) rfl rfl rfl (by repeat (first | exact .hd | apply Sel.tl)) (by simp)) ?_
          rintro _ _ rfl
          refine vl_end [(0, _), (7, _), (14, _), (15, _)] ⟨rfl, rfl, rfl, rfl, trivial⟩ ?_
          refine in_normal ?_
          refine then_next ?_
          refine vc_region ?_
          refine vl_det (det_add rfl rfl (w_i64 (by omega) (by omega))) rfl ?_
          refine vl_det (det_move rfl) rfl ?_
          refine vl_end [(0, _), (7, _), (14, _), (15, _)] ⟨rfl, rfl, rfl, rfl, trivial⟩ ?_
          have hel2 : h.length + 1 = (h ++ [nxT s (prvT o o.length) (decide ((i : Int) = 0))]).length := by simp
          refine in_loop_ ⟨_, by omega, i + 1, nxC s (prvT o o.length) (decide ((i : Int) = 0)), o ++ [nxT s (prvT o o.length) (decide ((i : Int) = 0))], h ++ [nxT s (prvT o o.length) (decide ((i : Int) = 0))], A57, c57, A70, c70, ⟨by omega, hoC, by simp; omega, ho25.snoc hmay.2.1, fun h => absurd h (by omega), fun _ => by rw [hh0 (by omega)]; simp [hoo, show i = 0 by omega], by rw [show m - (i + 1) = k by omega, decide_eq_false (show ¬ ((i + 1 : Nat) : Int) = 0 by omega)]; exact hF⟩, rfl, ⟨(by first | rfl | exact int_to (by omega) | exact sl_to (by omega)), (by first | rfl | exact int_to (by omega) | exact sl_to (by omega)), (by first | rfl | exact int_to (by omega) | exact sl_to (by omega)), (by first | rfl | exact int_to (by omega) | exact sl_to (by omega)), trivial⟩, .cons (wk_own (by rw [hbb]) (by rw [hbb]) (wk_blk (by rw [hel, hel2]; rfl) (wk_own hel (by simp [strs]) (wk_own hel2 (by simp [strs]) (.refl _)))))⟩
        · skip
          refine vc_skip ?_
          refine in_normal ?_
          refine then_next ?_
          refine vc_region ?_
          refine vl_det (det_add rfl rfl (w_i64 (by omega) (by omega))) rfl ?_
          refine vl_det (det_move rfl) rfl ?_
          refine vl_end [(0, _), (7, _), (14, _), (15, _)] ⟨rfl, rfl, rfl, rfl, trivial⟩ ?_
          refine in_loop_ ⟨_, by omega, i + 1, nxC s (prvT o o.length) (decide ((i : Int) = 0)), o ++ [nxT s (prvT o o.length) (decide ((i : Int) = 0))], h, A57, c57, P2, p2, ⟨by omega, hoC, by simp; omega, ho25.snoc hmay.2.1, fun h => absurd h (by omega), fun _ => by rw [hh1 (by omega), getD_app (by omega)], by rw [show m - (i + 1) = k by omega, decide_eq_false (show ¬ ((i + 1 : Nat) : Int) = 0 by omega)]; exact hF⟩, rfl, ⟨(by first | rfl | exact int_to (by omega) | exact sl_to (by omega)), (by first | rfl | exact int_to (by omega) | exact sl_to (by omega)), (by first | rfl | exact int_to (by omega) | exact sl_to (by omega)), (by first | rfl | exact int_to (by omega) | exact sl_to (by omega)), trivial⟩, .cons (wk_own (by rw [hbb]) (by rw [hbb]) (wk_blk (by rw [hel]; rfl) (wk_own hel (by simp [strs]) (.refl _))))⟩
  · skip
    rw [show m - i = 0 by omega, fillF] at hF
    refine vc_exit ?_
    refine then_exit ?_
    refine loop_exit ?_
    refine in_eq ?_
    refine then_next ?_
    refine vc_seq ?_
    refine vc_region ?_
    refine vl_det (det_move rfl) rfl ?_
    refine vl_call co67 rfl (cend_d ho (by first | (exact Bor.own (by repeat (first | exact List.Mem.head _ | apply List.Mem.tail))) | (repeat (first | assumption | apply Bor.cons)))) rfl ?_
    rintro _ _ ⟨rfl, hLL⟩
    obtain rfl := hLL.symm
    refine vl_det (det_assign rfl) rfl ?_
    refine vl_end [(6, _)] ⟨rfl, trivial⟩ ?_
    refine then_next ?_
    refine vc_ret ?_
    refine ret_wk (L' := Dd g sz P1 p1 P2 p2 o h F) (.skip (.skip (.refl _))) ?_
    refine ret1 rfl rfl ?_
    have hG2 : G.2 = s.end'.e := by
      rw [← hF]; split
      · rfl
      · rename_i q; simpa using (Classical.not_not.1 q).symm
    refine ⟨P1, p1, P2, p2, o, h, by rw [hG2], rfl, fun q => ?_⟩
    rw [hG2] at q
    rw [if_neg (by simpa using q)] at hF
    exact ⟨by rw [← hF], hh1 (by omega), ho25, by omega⟩
end Go.Proofs.YtpamjobiohbibaaGreat
