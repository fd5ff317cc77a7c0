/-
  Texts of one proof, joined: part 7. No condition.
-/
import Derived.Test.YtakokckokchacaaFl6
namespace Go.Proofs.Ytakokckokchacaa
open Go.RowKit
set_option linter.unusedVariables false
set_option maxRecDepth 20000
variable {B : Nat} {w0 : World} {F L M : List Ch} {A A2 A3 : Option Addr} {n c c2 c3 g : Nat}
def addP (PL : List Pq) (x : Pq) : List Pq := if PL.any (fun z => decide (z.2.2 = x.2.2)) = true then PL else PL ++ [x]
theorem addP_st {PL : List Pq} {S : List Qt} {x : Pq} {t : Qt} (h : PL.map (·.2.2) = S.map Qt.st) (hx : x.2.2 = t.st) : (addP PL x).map (·.2.2) = (addQ S t).map Qt.st := by
  have e : PL.any (fun z => decide (z.2.2 = x.2.2)) = S.any (fun z => decide (z.st = t.st)) := by
    have h1 : (PL.map (·.2.2)).any (fun y => decide (y = x.2.2)) = (S.map Qt.st).any (fun y => decide (y = x.2.2)) := by rw [h]
    rw [List.any_map, List.any_map] at h1
    rw [hx] at h1 ⊢
    exact h1
  unfold addP addQ
  rw [e]
  by_cases hc : S.any (fun z => decide (z.st = t.st)) = true
  · rw [if_pos hc, if_pos hc, h]
  · rw [if_neg hc, if_neg hc, List.map_append, List.map_append, h, List.map_singleton, List.map_singleton, hx]
theorem addP_len {PL : List Pq} {S : List Qt} (h : PL.map (·.2.2) = S.map Qt.st) : PL.length = S.length := by
  have := congrArg List.length h
  simpa using this
theorem addP_b {PL : List Pq} {x : Pq} (h : PqB B w0 F PL) (hx : Bor B w0 F 5 (.slice x.1 x.2.2.length x.2.1) x.2.2.length (stepsV x.2.2)) : PqB B w0 F (addP PL x) := fun e he => by
  unfold addP at he
  split at he
  · exact h e he
  · rcases List.mem_append.1 he with he | he
    · exact h e he
    · rw [List.mem_singleton.1 he]; exact hx
theorem addP_one {PL : List Pq} {x : Pq} (h : (addP PL x).length = 1) : (PL = [] ∧ addP PL x = [x]) ∨ (addP PL x = PL ∧ PL.length = 1) := by
  unfold addP at h ⊢
  split at h
  · rename_i hc
    rw [if_pos hc]; exact .inr ⟨rfl, h⟩
  · rename_i hc
    rw [if_neg hc]
    rw [List.length_append] at h
    have : PL = [] := List.eq_nil_of_length_eq_zero (by rw [List.length_singleton] at h; omega)
    rw [this]; exact .inl ⟨rfl, rfl⟩
theorem rput_d {PL : List Pq} {l : List StepC} (hP : PqB B w0 F PL) (hb : Bor B w0 F 5 (.slice A l.length c) l.length (stepsV l)) (hl : l.length ≤ 1000000000) (hp : PL.length ≤ 1000000000) (hz : ∀ e ∈ PL, e.2.2.length ≤ 1000000000) :
    Does Try.prog B w0 31 [.slice A3 PL.length c3, .slice A l.length c] (.own 22 1 A3 PL.length c3 (PL.map pqv) :: F) (fun r L => ∃ A' c', r = .slice A' (addP PL (A, c, l)).length c' ∧ L = .own 22 1 A' (addP PL (A, c, l)).length c' ((addP PL (A, c, l)).map pqv) :: F) := by
  refine fn_walk Try.func31 23 rfl rfl rfl [(0, .slice A3 PL.length c3), (1, .slice A l.length c)] ⟨⟨rfl, rfl⟩, ⟨rfl, rfl⟩, trivial⟩ ?_
  refine vc_seq ?_
  refine vc_region ?_
  refine vl_det (det_assign rfl) rfl ?_
  refine vl_end [(0, _), (1, _)] ⟨rfl, rfl, trivial⟩ ?_
  refine then_next ?_
  refine vc_seq ?_
  refine vc_seq ?_
  refine vc_region ?_
  refine vl_det (det_assign rfl) rfl ?_
  refine vl_end [(0, _), (1, _), (5, _)] ⟨rfl, rfl, rfl, trivial⟩ ?_
  refine then_next ?_
  refine vc_block ?_
  refine vc_loopJ (fun zf zL zm => ∃ (k : Nat), (k ≤ PL.length ∧ (PL.take k).any (fun z => decide (z.2.2 = l)) = false) ∧ PL.length - k = zm ∧ Sub zf [(0, .slice A3 PL.length c3), (1, .slice A l.length c), (5, .int .i64 k)] ∧ Wk zL (.own 22 1 A3 PL.length c3 (PL.map pqv) :: F)) _ ⟨0, ⟨Nat.zero_le _, rfl⟩, rfl, ⟨(by first | rfl | exact int_to (by omega) | exact sl_to (by omega)), (by first | rfl | exact int_to (by omega) | exact sl_to (by omega)), (by first | rfl | exact int_to (by omega) | exact sl_to (by omega)), trivial⟩, .refl _⟩ ?_
  rintro _ _ _ ⟨k, ⟨hk, ha⟩, rfl, hs, hp⟩
  refine vc_weaken _ hs (vc_wk hp ?_)
  clear hs hp
  refine vc_seq ?_
  refine vc_seq ?_
  refine vc_region ?_
  refine vl_det (det_move rfl) rfl ?_
  refine vl_det (det_move rfl) rfl ?_
  refine vl_det (det_len_sl Try.underlying31 rfl) rfl ?_
  refine vl_det (det_lss rfl rfl) rfl ?_
  refine vl_end [(0, _), (1, _), (5, _), (9, _)] ⟨rfl, rfl, rfl, rfl, trivial⟩ ?_
  refine then_next ?_
  refine vc_decideU rfl (fun h9 => ?_) (fun h9 => ?_)
  · skip
    have hkl : k < PL.length := by omega
    have hmem := getD_mem hkl ((none, 0, []) : Pq)
    have hbe := hP _ hmem
    have hze := hz _ hmem
    have htk := take_getD hkl ((none, 0, []) : Pq)
    have hge := pq_get hkl
    obtain ⟨e, he⟩ : ∃ e, e = PL.getD k (none, 0, []) := ⟨_, rfl⟩
    rw [← he] at hbe hze htk hge hmem
    refine vc_skip ?_
    refine then_next ?_
    refine vc_seq ?_
    refine vc_block ?_
    refine vc_seq ?_
    refine vc_region ?_
    refine vl_det (det_move rfl) rfl ?_
    refine vl_det (det_move rfl) rfl ?_
    refine vl_det (det_indexAddr (size := 1) Try.underlying31 (by kernel_rfl) rfl rfl rfl (by omega) (by first | (exact Bor.own (by repeat (first | exact List.Mem.head _ | apply List.Mem.tail))) | (repeat (first | assumption | apply Bor.cons)))) rfl ?_
    refine vl_det (det_load_row (by kernel_rfl) rfl (by first | (exact Bor.own (by repeat (first | exact List.Mem.head _ | apply List.Mem.tail))) | (repeat (first | assumption | apply Bor.cons))) (by omega) hge) rfl ?_
    refine vl_det (det_move rfl) rfl ?_
    refine vl_call co12 rfl (qsame_d (l := e.2.2) (l2 := l) (hbe.mono (List.sublist_cons_self _ _)) (by first | (exact Bor.own (by repeat (first | exact List.Mem.head _ | apply List.Mem.tail))) | (repeat (first | assumption | apply Bor.cons))) hze) rfl ?_
    rintro _ _ ⟨rfl, hLL⟩
    obtain rfl := hLL.symm
    refine vl_end [(0, _), (1, _), (5, _), (17, _)] ⟨rfl, rfl, rfl, rfl, trivial⟩ ?_
    refine then_next ?_
    refine vc_decideU rfl (fun h17 => ?_) (fun h17 => ?_)
    · skip
      have e1 : addP PL (A, c, l) = PL := if_pos (List.any_eq_true.2 ⟨_, hmem, decide_eq_true h17⟩)
      rw [e1]
      refine vc_seq ?_
      refine vc_region ?_
      refine vl_det (det_move rfl) rfl ?_
      refine vl_det (det_assign rfl) rfl ?_
      refine vl_end [(4, _)] ⟨rfl, trivial⟩ ?_
      refine then_next ?_
      refine vc_ret ?_
      refine in_ret ?_
      refine then_ret ?_
      refine loop_ret ?_
      refine in_ret ?_
      refine then_ret ?_
      refine ret1 rfl rfl ?_
      exact ⟨A3, c3, rfl, rfl⟩
    · skip
      refine vc_skip ?_
      refine in_normal ?_
      refine then_next ?_
      refine vc_region ?_
      refine vl_det (det_move rfl) rfl ?_
      refine vl_det (det_add rfl rfl (w_i64 (by omega) (by omega))) rfl ?_
      refine vl_det (det_assign rfl) rfl ?_
      refine vl_end [(0, _), (1, _), (5, _)] ⟨rfl, rfl, rfl, trivial⟩ ?_
      refine in_loop_ ⟨_, by omega, k + 1, ⟨by omega, by rw [htk, List.any_append, ha]; simp [h17]⟩, rfl, ⟨(by first | rfl | exact int_to (by omega) | exact sl_to (by omega)), (by first | rfl | exact int_to (by omega) | exact sl_to (by omega)), (by first | rfl | exact int_to (by omega) | exact sl_to (by omega)), trivial⟩, .refl _⟩
  · skip
    have e : PL.any (fun z => decide (z.2.2 = l)) = false := by
      have := ha
      rwa [List.take_of_length_le (by omega)] at this
    have e1 : addP PL (A, c, l) = PL ++ [(A, c, l)] := if_neg (by rw [e]; decide)
    rw [e1, List.length_append, List.map_append]
    refine vc_exit ?_
    refine then_exit ?_
    refine loop_exit ?_
    refine in_eq ?_
    refine then_next ?_
    refine vc_seq ?_
    refine vc_region ?_
    refine vl_det (det_move rfl) rfl ?_
    refine vl_det (det_move rfl) rfl ?_
    refine vl_push slT31 rfl rfl rfl rfl rfl (fun _ => rfl) (by repeat (first | exact .hd | apply Sel.tl)) (by omega) (by omega) ?_
    intro _ A22 c22
    refine vl_det (det_assign rfl) rfl ?_
    refine vl_end [(4, _)] ⟨rfl, trivial⟩ ?_
    refine then_next ?_
    refine vc_ret ?_
    refine ret1 rfl rfl ?_
    exact ⟨A22, c22, rfl, rfl⟩
def RFlQ (B : Nat) (w0 : World) (t : Qt) : Prop := t.st.length ≤ 1000000 → ∀ (F : List Ch) (A : Option Addr) (c : Nat), Bor B w0 F 5 (.slice A t.st.length c) t.st.length (stepsV t.st) →
  Does Try.prog B w0 13 [.slice A t.st.length c] F (fun r L => ∃ A' c', r = .slice A' (flatT t).st.length c' ∧ L = .own 38 5 A' (flatT t).st.length c' (stepsV (flatT t).st) :: F)
theorem rflat_leaf {s : StepC} (h1 : rightS s) (h2 : s.1 ≤ 4) : RFlQ B w0 (.leaf s) := fun hl F A c hb => by
  obtain ⟨t, ht⟩ : ∃ t, t = Qt.leaf s := ⟨_, rfl⟩
  have hft : flatT t = t := by rw [ht]; rfl
  have hn : t.isN := by rw [ht]; trivial
  have hw : t.wf := by rw [ht]; exact ⟨h1, h2⟩
  have hsp := st_split hn hw
  have hlt : lastT t = s := by rw [ht]; rfl
  have hpos := st_pos hn
  rw [← ht] at hl hb ⊢
  have hpd := fun F A c hb => @parts_d B w0 F A c t hn hw hl hb
  rw [hft]
  obtain ⟨q, hq⟩ : ∃ q, q = t.st := ⟨_, rfl⟩
  rw [← hq] at hsp hl hb hpos hpd ⊢
  have hlast : q.getD (q.length - 1) sNil = s := by
    have : q = [s] := by rw [hq, ht]; rfl
    rw [this]; rfl
  have hcl := step_cells (q := q) (k := q.length - 1) (by omega)
  rw [hlast] at hcl
  have hone := step_one s
  refine fn_walk Try.func13 115 rfl rfl rfl [(0, .slice A q.length c)] ⟨⟨rfl, rfl⟩, trivial⟩ ?_
  refine vc_seq ?_
  refine vc_region ?_
  refine vl_det (det_assign rfl) rfl ?_
  refine vl_end [(0, _)] ⟨rfl, trivial⟩ ?_
  refine then_next ?_
  refine vc_seq ?_
  refine vc_region ?_
  refine vl_det (det_move rfl) rfl ?_
  refine vl_det (det_move rfl) rfl ?_
  refine vl_det (det_len_sl Try.underlying22 rfl) rfl ?_
  refine vl_det (det_sub rfl rfl (w_i64 (by omega) (by omega))) rfl ?_
  refine vl_det (det_indexAddr (i := q.length - 1) (size := 5) Try.underlying22 (by kernel_rfl) rfl rfl (by omega) (by omega) (by first | (exact Bor.own (by repeat (first | exact List.Mem.head _ | apply List.Mem.tail))) | (repeat (first | assumption | apply Bor.cons)))) rfl ?_
  refine vl_det (det_load_rowa 5 (by kernel_rfl) rfl (by first | (exact Bor.own (by repeat (first | exact List.Mem.head _ | apply List.Mem.tail))) | (repeat (first | assumption | apply Bor.cons))) (by omega) (StepC.cells s) hcl rfl) rfl ?_
  refine vl_eff (eff_alloc_z (zv := (.agg #[.int .i64 0, .int .i64 0, .string ⟨#[]⟩, .int .u64 0, .int .u64 0])) (by kernel_rfl) rfl) rfl ?_
  rintro _ _ ⟨g3, rfl, rfl⟩
  refine vl_eff0 (eff_store_whole 5 (by kernel_rfl) rfl rfl (by first | exact bv_one _ | exact strs_one _ | exact ints_one _ _ | (simp; done) | (simp [Value.oneCell']; done) | assumption) (by repeat (first | exact .hd | apply Sel.tl)) (by first | rfl | (simp; omega) | (simp [*]; done)) (by first | rfl | (simp; omega) | (simp [*]; done))) ?_
  rintro _ _ rfl
  refine vl_end [(0, _), (3, _)] ⟨rfl, rfl, trivial⟩ ?_
  refine then_next ?_
  refine vc_seq ?_
  refine vc_region ?_
  refine vl_det (det_move rfl) rfl ?_
  refine vl_call co15 rfl (hpd _ _ _ (by first | (exact Bor.own (by repeat (first | exact List.Mem.head _ | apply List.Mem.tail))) | (repeat (first | assumption | apply Bor.cons)))) rfl ?_
  rintro _ _ ⟨A20, c20, PL, rfl, hpl, hLL, hpm, hpb⟩
  obtain rfl := hLL.symm
  refine vl_det (det_assign rfl) rfl ?_
  refine vl_end [(0, _), (3, _), (4, _)] ⟨rfl, rfl, rfl, trivial⟩ ?_
  refine then_next ?_
  refine vc_seq ?_
  refine vc_seq ?_
  refine vc_region ?_
  refine vl_det (det_fieldAddr_ Try.underlying38 rfl (by kernel_rfl) rfl rfl) rfl ?_
  refine vl_det (det_load_blk (by kernel_rfl) rfl (by repeat (first | exact .hd | apply Sel.tl)) rfl) rfl ?_
  refine vl_det (det_leq rfl rfl) rfl ?_
  refine vl_end [(0, _), (3, _), (4, _), (23, _)] ⟨rfl, rfl, rfl, rfl, trivial⟩ ?_
  refine then_next ?_
  refine vc_decideU rfl (fun h23 => ?_) (fun h23 => ?_)
  · skip
    refine vc_seq ?_
    refine vc_region ?_
    refine vl_eff (eff_build_empty slT22) rfl ?_
    rintro _ _ ⟨A24, rfl, rfl⟩
    refine vl_det (det_move rfl) rfl ?_
    refine vl_eff (eff_app slT22 rfl (by repeat (first | exact .hd | apply Sel.tl)) rfl (by first | (exact Bor.own (by repeat (first | exact List.Mem.head _ | apply List.Mem.tail))) | (repeat (first | assumption | apply Bor.cons))) (steps_one _) (by omega) (by omega)) rfl ?_
    rintro _ _ ⟨A26, c26, rfl, rfl⟩
    refine vl_det (det_assign rfl) rfl ?_
    refine vl_end [(2, _)] ⟨rfl, trivial⟩ ?_
    refine then_next ?_
    refine vc_ret ?_
    refine then_ret ?_
    refine ret_wk (L' := .own 38 5 A26 q.length c26 (stepsV q) :: F) (.trans (wk_own (by omega) rfl (.refl _)) (.cons (.skip (.skip (.refl _))))) ?_
    refine ret1 rfl rfl ?_
    rw [Nat.zero_add]
    exact ⟨A26, c26, rfl, rfl⟩
  · skip
    exfalso; omega
theorem rflat_not {k : Qt} (hn : k.isN) (hw : k.wf) (ih : RFlQ B w0 k) : RFlQ B w0 (.not k) := fun hl F A c hb => by
  obtain ⟨t, ht⟩ : ∃ t, t = Qt.not k := ⟨_, rfl⟩
  have hft : flatT t = notT (flatT k) := by rw [ht]; rfl
  have htn : t.isN := by rw [ht]; trivial
  have htw : t.wf := by rw [ht]; exact ⟨hn, hw⟩
  have hsp := st_split htn htw
  have hlt : lastT t = (5, 0, [], 0, 0) := by rw [ht]; rfl
  have hkt : kidsT t = [k] := by rw [ht]; rfl
  have hpos := st_pos htn
  rw [← ht] at hl hb ⊢
  have hpd := fun F A c hb => @parts_d B w0 F A c t htn htw hl hb
  unfold PartsQ at hpd
  simp only [hkt, List.length_singleton] at hpd
  rw [hkt, hlt] at hsp
  rw [hft]
  have hkl : k.st.length ≤ 1000000 := by rw [hsp] at hl; simp at hl; omega
  obtain ⟨x, hx⟩ : ∃ x, x = flatT k := ⟨_, rfl⟩
  have hff := (flatT_ok k hw).1 hn
  have ihk := ih hkl
  rw [← hx] at hff ihk ⊢
  obtain ⟨hxn, hxw, hxl, _⟩ := hff
  have hxs := st_split hxn hxw
  obtain ⟨hxr, _⟩ := lastT_ok hxn hxw
  have hxp := st_pos hxn
  have hx5 : (lastT x).1 = 5 ↔ isNt x = true := by
    clear hx ihk hxs hxp hxl
    cases x with
    | leaf s => exact ⟨fun h => by have := hxw.2; have : s.1 = 5 := h; omega, fun h => by cases h⟩
    | not j => exact ⟨fun _ => rfl, fun _ => rfl⟩
    | group op ks => exact ⟨fun h => by have := hxw.1; have : op = 5 := h; omega, fun h => by cases h⟩
    | nil => exact hxn.elim
    | cons a b => exact hxn.elim
  have hxx : (stepsV x.st).take ((x.st.length - 1) * 5) = stepsV ((kidsT x).flatMap Qt.st) := by
    rw [steps_take, hxs]; simp
  have hnt : isNt x = true → (notT x).st = (kidsT x).flatMap Qt.st ∧ (notT x).st.length = x.st.length - 1 := fun h => by
    cases x with
    | not j =>
      have e : notT (.not j) = j := by unfold notT; rw [if_pos h]; rfl
      rw [e]; exact ⟨by simp [kidsT], by simp [Qt.st]⟩
    | _ => cases h
  have hnf : ¬ isNt x = true → (notT x).st = x.st ++ [(5, 0, [], 0, 0)] := fun h => by unfold notT; rw [if_neg h]; rfl
  obtain ⟨lx, hlx⟩ : ∃ lx, lx = lastT x := ⟨_, rfl⟩
  obtain ⟨qx, hqx⟩ : ∃ qx, qx = x.st := ⟨_, rfl⟩
  rw [← hlx] at hxs hx5 hxr
  rw [← hqx] at ihk hxs hxx hnt hnf hxp hxl
  have hxlast : qx.getD (qx.length - 1) sNil = lx := by
    rw [hxs]; simp
  have hxc := step_cells (q := qx) (k := qx.length - 1) (by omega)
  rw [hxlast] at hxc
  obtain ⟨q, hq⟩ : ∃ q, q = t.st := ⟨_, rfl⟩
  rw [← hq] at hsp hl hb hpos hpd ⊢
  have hlast : q.getD (q.length - 1) sNil = (5, 0, [], 0, 0) := by
    rw [hsp]; simp
  have hcl := step_cells (q := q) (k := q.length - 1) (by omega)
  rw [hlast] at hcl
  have hone := step_one (5, 0, [], 0, 0)
  refine fn_walk Try.func13 115 rfl rfl rfl [(0, .slice A q.length c)] ⟨⟨rfl, rfl⟩, trivial⟩ ?_
  refine vc_seq ?_
  refine vc_region ?_
  refine vl_det (det_assign rfl) rfl ?_
  refine vl_end [(0, _)] ⟨rfl, trivial⟩ ?_
  refine then_next ?_
  refine vc_seq ?_
  refine vc_region ?_
  refine vl_det (det_move rfl) rfl ?_
  refine vl_det (det_move rfl) rfl ?_
  refine vl_det (det_len_sl Try.underlying22 rfl) rfl ?_
  refine vl_det (det_sub rfl rfl (w_i64 (by omega) (by omega))) rfl ?_
  refine vl_det (det_indexAddr (i := q.length - 1) (size := 5) Try.underlying22 (by kernel_rfl) rfl rfl (by omega) (by omega) (by first | (exact Bor.own (by repeat (first | exact List.Mem.head _ | apply List.Mem.tail))) | (repeat (first | assumption | apply Bor.cons)))) rfl ?_
  refine vl_det (det_load_rowa 5 (by kernel_rfl) rfl (by first | (exact Bor.own (by repeat (first | exact List.Mem.head _ | apply List.Mem.tail))) | (repeat (first | assumption | apply Bor.cons))) (by omega) (StepC.cells (5, 0, [], 0, 0)) hcl rfl) rfl ?_
  refine vl_eff (eff_alloc_z (zv := (.agg #[.int .i64 0, .int .i64 0, .string ⟨#[]⟩, .int .u64 0, .int .u64 0])) (by kernel_rfl) rfl) rfl ?_
  rintro _ _ ⟨g3, rfl, rfl⟩
  refine vl_eff0 (eff_store_whole 5 (by kernel_rfl) rfl rfl (by first | exact bv_one _ | exact strs_one _ | exact ints_one _ _ | (simp; done) | (simp [Value.oneCell']; done) | assumption) (by repeat (first | exact .hd | apply Sel.tl)) (by first | rfl | (simp; omega) | (simp [*]; done)) (by first | rfl | (simp; omega) | (simp [*]; done))) ?_
  rintro _ _ rfl
  refine vl_end [(0, _), (3, _)] ⟨rfl, rfl, trivial⟩ ?_
  refine then_next ?_
  refine vc_seq ?_
  refine vc_region ?_
  refine vl_det (det_move rfl) rfl ?_
  refine vl_call co15 rfl (hpd _ _ _ (by first | (exact Bor.own (by repeat (first | exact List.Mem.head _ | apply List.Mem.tail))) | (repeat (first | assumption | apply Bor.cons)))) rfl ?_
  rintro _ _ ⟨A20, c20, PL, rfl, hpl, hLL, hpm, hpb⟩
  obtain rfl := hLL.symm
  obtain ⟨e, rfl⟩ := List.length_eq_one_iff.1 hpl
  obtain ⟨A5, c5, qk⟩ := e
  obtain rfl : qk = k.st := by simpa using hpm
  have hbk := hpb _ hb (A5, c5, k.st) (by simp)
  refine vl_det (det_assign rfl) rfl ?_
  refine vl_end [(0, _), (3, _), (4, _)] ⟨rfl, rfl, rfl, trivial⟩ ?_
  refine then_next ?_
  refine vc_seq ?_
  refine vc_seq ?_
  refine vc_region ?_
  refine vl_det (det_fieldAddr_ Try.underlying38 rfl (by kernel_rfl) rfl rfl) rfl ?_
  refine vl_det (det_load_blk (by kernel_rfl) rfl (by repeat (first | exact .hd | apply Sel.tl)) rfl) rfl ?_
  refine vl_det (det_leq rfl rfl) rfl ?_
  refine vl_end [(0, _), (3, _), (4, _), (23, _)] ⟨rfl, rfl, rfl, rfl, trivial⟩ ?_
  refine then_next ?_
  refine vc_decideU rfl (fun h23 => ?_) (fun h23 => ?_)
  · skip
    exfalso; omega
  · skip
    refine vc_skip ?_
    refine then_next ?_
    refine vc_seq ?_
    refine vc_seq ?_
    refine vc_region ?_
    refine vl_det (det_fieldAddr_ Try.underlying38 rfl (by kernel_rfl) rfl rfl) rfl ?_
    refine vl_det (det_load_blk (by kernel_rfl) rfl (by repeat (first | exact .hd | apply Sel.tl)) rfl) rfl ?_
    refine vl_det (det_eql rfl rfl) rfl ?_
    refine vl_end [(3, _), (4, _), (29, _)] ⟨rfl, rfl, rfl, trivial⟩ ?_
    refine then_next ?_
    refine vc_decideU rfl (fun h29 => ?_) (fun h29 => ?_)
    · skip
      refine vc_seq ?_
      refine vc_region ?_
      refine vl_det (det_move rfl) rfl ?_
      refine vl_det (det_indexAddr (i := 0) (size := 1) Try.underlying31 (by kernel_rfl) rfl rfl rfl (by omega) (by first | (exact Bor.own (by repeat (first | exact List.Mem.head _ | apply List.Mem.tail))) | (repeat (first | assumption | apply Bor.cons)))) rfl ?_
      refine vl_det (det_load_row (by kernel_rfl) rfl (by first | (exact Bor.own (by repeat (first | exact List.Mem.head _ | apply List.Mem.tail))) | (repeat (first | assumption | apply Bor.cons))) (by simp) (show ([((A5, c5, k.st) : Pq)].map pqv)[0]? = some _ from rfl)) rfl ?_
      refine vl_call co13 rfl (ihk _ _ _ (hbk.mono (.cons _ (.cons _ (.refl _))))) rfl ?_
      rintro _ _ ⟨A33, c33, rfl, hLL⟩
      obtain rfl := hLL.symm
      refine vl_det (det_assign rfl) rfl ?_
      refine vl_end [(3, _), (5, _)] ⟨rfl, rfl, trivial⟩ ?_
      refine then_next ?_
      refine vc_seq ?_
      refine vc_seq ?_
      refine vc_region ?_
      refine vl_det (det_move rfl) rfl ?_
      refine vl_det (det_move rfl) rfl ?_
      refine vl_det (det_len_sl Try.underlying22 rfl) rfl ?_
      refine vl_det (det_sub rfl rfl (w_i64 (by omega) (by omega))) rfl ?_
      refine vl_det (det_indexAddr (i := qx.length - 1) (size := 5) Try.underlying22 (by kernel_rfl) rfl rfl (by omega) (by omega) (by first | (exact Bor.own (by repeat (first | exact List.Mem.head _ | apply List.Mem.tail))) | (repeat (first | assumption | apply Bor.cons)))) rfl ?_
      refine vl_det (det_fieldAddr_row_ Try.underlying38 rfl (by kernel_rfl) rfl (by first | (exact Bor.own (by repeat (first | exact List.Mem.head _ | apply List.Mem.tail))) | (repeat (first | assumption | apply Bor.cons))) (by omega) rfl) rfl ?_
      refine vl_det (det_load_rowf (by kernel_rfl) rfl (by first | (exact Bor.own (by repeat (first | exact List.Mem.head _ | apply List.Mem.tail))) | (repeat (first | assumption | apply Bor.cons))) (by omega) (hxc 0 _ rfl)) rfl ?_
      refine vl_det (det_eql rfl rfl) rfl ?_
      refine vl_end [(3, _), (5, _), (41, _)] ⟨rfl, rfl, rfl, trivial⟩ ?_
      refine then_next ?_
      refine vc_decideU rfl (fun h41 => ?_) (fun h41 => ?_)
      · skip
        have hn1 := hnt (hx5.1 h41)
        rw [hn1.2, hn1.1]
        refine vc_seq ?_
        refine vc_bor (nn := qx.length) (A := A33) (c := c33) (xs := stepsV qx) (by first | (exact Bor.own (by repeat (first | exact List.Mem.head _ | apply List.Mem.tail))) | (repeat (first | assumption | apply Bor.cons))) fun hcap _ => ?_
        refine vc_cut_row (qx.length - 1) ((by repeat (first | exact .hd | apply Sel.tl))) (by omega) ?_
        rw [hxx]
        refine vc_region ?_
        refine vl_det (det_move rfl) rfl ?_
        refine vl_det (det_move rfl) rfl ?_
        refine vl_det (det_len_sl Try.underlying22 rfl) rfl ?_
        refine vl_det (det_sub rfl rfl (r := ((qx.length - 1 : Nat) : Int)) ((w_i64 (by omega) (by omega)).trans (by omega))) rfl ?_
        refine vl_det (det_slice_hi (i := qx.length - 1) (size := 5) Try.underlying22 (by kernel_rfl) rfl rfl rfl (by omega)) rfl ?_
        refine vl_det (det_assign rfl) rfl ?_
        refine vl_end [(2, _)] ⟨rfl, trivial⟩ ?_
        refine then_next ?_
        refine vc_ret ?_
        refine then_ret ?_
        refine then_ret ?_
        refine ret_wk (L' := .own 38 5 A33 (qx.length - 1) c33 (stepsV ((kidsT x).flatMap Qt.st)) :: F) (.cons (.skip (.skip (.refl _)))) ?_
        refine ret1 rfl rfl ?_
        exact ⟨A33, c33, rfl, rfl⟩
      · skip
        have hn1 := hnf (fun h => h41 (hx5.2 h))
        rw [hn1, List.length_append, steps_app]
        refine vc_skip ?_
        refine then_next ?_
        refine vc_seq ?_
        refine vc_region ?_
        refine vl_det (det_move rfl) rfl ?_
        refine vl_det (det_load_whole 5 (by kernel_rfl) rfl (by repeat (first | exact .hd | apply Sel.tl)) (by first | rfl | (simp; omega) | (simp [*]; done))) rfl ?_
        refine vl_pushs slT22 rfl rfl rfl (by omega) (by first | exact bv_one _ | exact strs_one _ | exact ints_one _ _ | (simp; done) | (simp [Value.oneCell']; done) | assumption) rfl rfl rfl (fun _ => rfl) (by repeat (first | exact .hd | apply Sel.tl)) (by omega) (by omega) ?_
        intro _ A50 c50
        refine vl_det (det_assign rfl) rfl ?_
        refine vl_end [(2, _)] ⟨rfl, trivial⟩ ?_
        refine then_next ?_
        refine vc_ret ?_
        refine then_ret ?_
        refine ret_wk (L' := .own 38 5 A50 (qx.length + 1) c50 (stepsV qx ++ stepsV [(5, 0, [], 0, 0)]) :: F) (.trans (wk_own rfl (by rw [steps_sing]) (.refl _)) (.cons (.skip (.skip (.refl _))))) ?_
        refine ret1 rfl rfl ?_
        exact ⟨A50, c50, rfl, rfl⟩
    · skip
      exfalso; omega
abbrev ownP (e : Pq) : Ch := .own 38 5 e.1 e.2.2.length e.2.1 (stepsV e.2.2)
/-- one row alone is a row of ours -/
def OneP (PL : List Pq) (M F : List Ch) : Prop := PL.length = 1 → Wk (M ++ F) (ownP (PL.getD 0 (none, 0, [])) :: F)
theorem wk_front (M F : List Ch) : Wk (M ++ F) F := ⟨M, List.perm_append_comm⟩
theorem OneP.put {PL : List Pq} {e : Pq} {M F : List Ch} (h : OneP PL M F) : OneP (addP PL e) (ownP e :: M) F := fun h1 => by
  rcases addP_one h1 with ⟨h2, h3⟩ | ⟨h2, h3⟩
  · rw [h3]; exact .cons (wk_front M F)
  · rw [h2]; exact .skip (h h3)
theorem rflat_grp {op : Int} {l : List Qt} (h67 : op = 6 ∨ op = 7) (hll : 2 ≤ l.length) (hk : ∀ t ∈ l, t.isN ∧ t.wf) (ih : ∀ t ∈ l, RFlQ B w0 t) : RFlQ B w0 (.group op (ofL l)) := fun hl F A c hb => by
  obtain ⟨t, ht⟩ : ∃ t, t = Qt.group op (ofL l) := ⟨_, rfl⟩
  have hft : flatT t = mkG op ((l.map flatT).foldl (gath op) []) := by rw [ht, flatT_group]
  have htn : t.isN := by rw [ht]; trivial
  have htw : t.wf := by rw [ht]; exact ⟨h67, by rw [ofL_len]; exact hll, ofL_isL _, ofL_wf hk⟩
  have hsp := st_split htn htw
  have hlt : lastT t = (op, (l.length : Int), [], 0, 0) := by rw [ht]; show (op, ((ofL l).len : Int), _, _, _) = _; rw [ofL_len]
  have hkt : kidsT t = l := by rw [ht]; exact toL_ofL l
  have hpos := st_pos htn
  rw [← ht] at hl hb ⊢
  have hpd := fun F A c hb => @parts_d B w0 F A c t htn htw hl hb
  unfold PartsQ at hpd
  simp only [hkt] at hpd
  rw [hkt, hlt] at hsp
  rw [hft]
  have hfl : ∀ t ∈ l, (flatT t).isN ∧ (flatT t).wf ∧ (flatT t).st.length ≤ t.st.length := fun t ht => by
    have := (flatT_ok t (hk t ht).2).1 (hk t ht).1
    exact ⟨this.1, this.2.1, this.2.2.1⟩
  have hnfl : ∀ t ∈ l, (flatT t).nf := fun t ht => (flatT_nf t (hk t ht).2).1 (hk t ht).1
  have htk : ∀ i, i < l.length → ((l.take (i + 1)).map flatT).foldl (gath op) [] = gath op (((l.take i).map flatT).foldl (gath op) []) (flatT (l.getD i .nil)) := fun i hi => by
    rw [take_getD hi .nil, List.map_append, List.foldl_append]; rfl
  have hsz : szL l ≤ 1000000 := by
    rw [hsp, List.length_append] at hl
    unfold szL; omega
  have hl6 : l.length ≤ 1000000 := Nat.le_trans (flat_len hk) hsz
  have hlz : ∀ i, szL (l.take i) ≤ szL l := fun i => by
    conv => rhs; rw [← List.take_append_drop i l, szL_app]
    omega
  have hzz : ∀ i, szL (((l.take i).map flatT).foldl (gath op) []) ≤ szL (l.take i) := fun i => by
    have h1 := gaths_sz (op := op) ((l.take i).map flatT) [] (fun t ht => by
      obtain ⟨k, hk, rfl⟩ := List.mem_map.1 ht
      exact ⟨(hfl k (List.mem_of_mem_take hk)).1, (hfl k (List.mem_of_mem_take hk)).2.1⟩)
    have h2 : ∀ (r : List Qt), (∀ t ∈ r, t ∈ l) → szL (r.map flatT) ≤ szL r := by
      intro r
      induction r with
      | nil => intro _; exact Nat.le_refl _
      | cons k r ihr =>
        intro h
        have h4 := ihr (fun t ht => h t (by simp [ht]))
        have h5 := (hfl k (h k (by simp))).2.2
        rw [List.map_cons, szL_cons, szL_cons]; omega
    have h3 := h2 (l.take i) (fun t ht => List.mem_of_mem_take ht)
    have e0 : szL [] = 0 := rfl
    omega
  have hww : ∀ i, ∀ t ∈ ((l.take i).map flatT).foldl (gath op) [], t.isN ∧ t.wf := fun i => gaths_wf _ _ (fun t ht => by
      obtain ⟨k, hk, rfl⟩ := List.mem_map.1 ht
      exact ⟨(hfl k (List.mem_of_mem_take hk)).1, (hfl k (List.mem_of_mem_take hk)).2.1⟩) (by simp)
  have hbt := hb
  have hpt : ∀ F', Bor B w0 F' 5 (.slice A t.st.length c) t.st.length (stepsV t.st) ↔ Bor B w0 F' 5 (.slice A t.st.length c) t.st.length (stepsV t.st) := fun _ => .rfl
  obtain ⟨q, hq⟩ : ∃ q, q = t.st := ⟨_, rfl⟩
  rw [← hq] at hsp hl hb hpos hpd ⊢
  clear hbt hpt
  have hlast : q.getD (q.length - 1) sNil = (op, (l.length : Int), [], 0, 0) := by
    rw [hsp]; simp
  have hcl := step_cells (q := q) (k := q.length - 1) (by omega)
  rw [hlast] at hcl
  clear hlast hsp hlt hft
  have hone := step_one (op, (l.length : Int), [], 0, 0)
  refine fn_walk Try.func13 115 rfl rfl rfl [(0, .slice A q.length c)] ⟨⟨rfl, rfl⟩, trivial⟩ ?_
  refine vc_seq ?_
  refine vc_region ?_
  refine vl_det (det_assign rfl) rfl ?_
  refine vl_end [(0, _)] ⟨rfl, trivial⟩ ?_
  refine then_next ?_
  refine vc_seq ?_
  refine vc_region ?_
  refine vl_det (det_move rfl) rfl ?_
  refine vl_det (det_move rfl) rfl ?_
  refine vl_det (det_len_sl Try.underlying22 rfl) rfl ?_
  refine vl_det (det_sub rfl rfl (w_i64 (by omega) (by omega))) rfl ?_
  refine vl_det (det_indexAddr (i := q.length - 1) (size := 5) Try.underlying22 (by kernel_rfl) rfl rfl (by omega) (by omega) (by first | (exact Bor.own (by repeat (first | exact List.Mem.head _ | apply List.Mem.tail))) | (repeat (first | assumption | apply Bor.cons)))) rfl ?_
  refine vl_det (det_load_rowa 5 (by kernel_rfl) rfl (by first | (exact Bor.own (by repeat (first | exact List.Mem.head _ | apply List.Mem.tail))) | (repeat (first | assumption | apply Bor.cons))) (by omega) (StepC.cells (op, (l.length : Int), [], 0, 0)) hcl rfl) rfl ?_
  refine vl_eff (eff_alloc_z (zv := (.agg #[.int .i64 0, .int .i64 0, .string ⟨#[]⟩, .int .u64 0, .int .u64 0])) (by kernel_rfl) rfl) rfl ?_
  rintro _ _ ⟨g3, rfl, rfl⟩
  refine vl_eff0 (eff_store_whole 5 (by kernel_rfl) rfl rfl (by first | exact bv_one _ | exact strs_one _ | exact ints_one _ _ | (simp; done) | (simp [Value.oneCell']; done) | assumption) (by repeat (first | exact .hd | apply Sel.tl)) (by first | rfl | (simp; omega) | (simp [*]; done)) (by first | rfl | (simp; omega) | (simp [*]; done))) ?_
  rintro _ _ rfl
  refine vl_end [(0, _), (3, _)] ⟨rfl, rfl, trivial⟩ ?_
  refine then_next ?_
  refine vc_seq ?_
  refine vc_region ?_
  refine vl_det (det_move rfl) rfl ?_
  refine vl_call co15 rfl (hpd _ _ _ (by first | (exact Bor.own (by repeat (first | exact List.Mem.head _ | apply List.Mem.tail))) | (repeat (first | assumption | apply Bor.cons)))) rfl ?_
  rintro _ _ ⟨A20, c20, P0, rfl, hpl, hLL, hpm, hpb⟩
  obtain rfl := hLL.symm
  refine vl_det (det_assign rfl) rfl ?_
  refine vl_end [(0, _), (3, _), (4, _)] ⟨rfl, rfl, rfl, trivial⟩ ?_
  refine then_next ?_
  refine vc_seq ?_
  refine vc_seq ?_
  refine vc_region ?_
  refine vl_det (det_fieldAddr_ Try.underlying38 rfl (by kernel_rfl) rfl rfl) rfl ?_
  refine vl_det (det_load_blk (by kernel_rfl) rfl (by repeat (first | exact .hd | apply Sel.tl)) rfl) rfl ?_
  refine vl_det (det_leq rfl rfl) rfl ?_
  refine vl_end [(0, _), (3, _), (4, _), (23, _)] ⟨rfl, rfl, rfl, rfl, trivial⟩ ?_
  refine then_next ?_
  refine vc_decideU rfl (fun h23 => ?_) (fun h23 => ?_)
  · skip
    exfalso; omega
  · skip
    refine vc_skip ?_
    refine then_next ?_
    refine vc_seq ?_
    refine vc_seq ?_
    refine vc_region ?_
    refine vl_det (det_fieldAddr_ Try.underlying38 rfl (by kernel_rfl) rfl rfl) rfl ?_
    refine vl_det (det_load_blk (by kernel_rfl) rfl (by repeat (first | exact .hd | apply Sel.tl)) rfl) rfl ?_
    refine vl_det (det_eql rfl rfl) rfl ?_
    refine vl_end [(3, _), (4, _), (29, _)] ⟨rfl, rfl, rfl, trivial⟩ ?_
    refine then_next ?_
    refine vc_decideU rfl (fun h29 => ?_) (fun h29 => ?_)
    · skip
      exfalso; omega
    · skip
      refine vc_skip ?_
      refine then_next ?_
      refine vc_seq ?_
      refine vc_nil_row 22 1 none ?_
      refine vc_region ?_
      refine vl_det (det_assign rfl) rfl ?_
      refine vl_end [(3, _), (4, _), (6, _)] ⟨rfl, rfl, rfl, trivial⟩ ?_
      refine then_next ?_
      refine vc_seq ?_
      refine vc_seq ?_
      refine vc_region ?_
      refine vl_det (det_assign rfl) rfl ?_
      refine vl_end [(3, _), (4, _), (6, _), (7, _)] ⟨rfl, rfl, rfl, rfl, trivial⟩ ?_
      refine then_next ?_
      refine vc_block ?_
      refine vc_loopJ (fun zf zL zm => ∃ (i : Nat) (S : List Qt) (PL : List Pq) (M : List Ch) (A3 : Option Addr) (c3 : Nat), (i ≤ l.length ∧ S = ((l.take i).map flatT).foldl (gath op) [] ∧ PL.map (·.2.2) = S.map Qt.st ∧ PqB B w0 (M ++ F) PL ∧ OneP PL M F) ∧ l.length - i = zm ∧ Sub zf [(3, .pointer (some ⟨g3, 0, none⟩)), (4, .slice A20 l.length c20), (6, .slice A3 PL.length c3), (7, .int .i64 i)] ∧ Wk zL (.own 22 1 A3 PL.length c3 (PL.map pqv) :: .own 22 1 A20 l.length c20 (P0.map pqv) :: .blk g3 38 (StepC.cells (op, (l.length : Int), [], 0, 0)) :: (M ++ F))) _ ⟨0, [], [], [], none, 0, ⟨Nat.zero_le _, rfl, rfl, fun e h => absurd h (by simp), fun h => absurd h (by simp)⟩, rfl, ⟨(by first | rfl | exact int_to (by omega) | exact sl_to (by omega)), (by first | rfl | exact int_to (by omega) | exact sl_to (by omega)), (by first | rfl | exact int_to (by omega) | exact sl_to (by omega)), (by first | rfl | exact int_to (by omega) | exact sl_to (by omega)), trivial⟩, .refl _⟩ ?_
      rintro _ _ _ ⟨i, S, PL, M, A3, c3, ⟨hi, hS, hP, hB, hO⟩, rfl, hs, hp⟩
      refine vc_weaken _ hs (vc_wk hp ?_)
      clear hs hp
      refine vc_seq ?_
      refine vc_seq ?_
      refine vc_region ?_
      refine vl_det (det_move rfl) rfl ?_
      refine vl_det (det_move rfl) rfl ?_
      refine vl_det (det_len_sl Try.underlying31 rfl) rfl ?_
      refine vl_det (det_lss rfl rfl) rfl ?_
      refine vl_end [(3, _), (4, _), (6, _), (7, _), (54, _)] ⟨rfl, rfl, rfl, rfl, rfl, trivial⟩ ?_
      refine then_next ?_
      refine vc_decideU rfl (fun h54 => ?_) (fun h54 => ?_)
      · skip
        have hil : i < l.length := by omega
        have hmem := getD_mem hil Qt.nil
        have hti := htk i hil
        have hz1 := hzz i
        have hz2 := hlz (i + 1)
        have hw1 := hww i
        have hw2 := hww (i + 1)
        rw [← hS] at hti hz1 hw1
        rw [hti] at hw2
        rw [take_getD hil .nil, szL_app, szL_one] at hz2
        have hih := ih _ hmem
        have hsk := hk _ hmem
        have hfk := hfl _ hmem
        have hnk := hnfl _ hmem
        have hlk : (l.getD i .nil).st.length ≤ szL l := mem_flat_len hmem
        have hg0 := pq_get (PL := P0) (k := i) (by omega)
        have hm0 := getD_mem (show i < P0.length by omega) ((none, 0, []) : Pq)
        have hb0 := hpb (.blk g3 38 (StepC.cells (op, (l.length : Int), [], 0, 0)) :: F) hb.cons _ hm0
        have hst0 : (P0.getD i (none, 0, [])).2.2 = (l.getD i .nil).st := by
          have h1 : (P0.map (·.2.2))[i]? = (l.map Qt.st)[i]? := by rw [hpm]
          rw [List.getElem?_map, List.getElem?_map, List.getElem?_eq_getElem (show i < P0.length by omega), List.getElem?_eq_getElem hil] at h1
          simpa [List.getD, List.getElem?_eq_getElem (show i < P0.length by omega), List.getElem?_eq_getElem hil] using h1
        obtain ⟨k, hkk⟩ : ∃ k, k = l.getD i .nil := ⟨_, rfl⟩
        rw [← hkk] at hti hz2 hw2 hih hsk hfk hlk hst0 hnk
        obtain ⟨⟨A8, c8, q8⟩, he8⟩ : ∃ e, e = P0.getD i (none, 0, []) := ⟨_, rfl⟩
        rw [← he8] at hg0 hb0 hst0
        obtain rfl : q8 = k.st := hst0
        have hihk := hih (by omega)
        obtain ⟨x, hx⟩ : ∃ x, x = flatT k := ⟨_, rfl⟩
        rw [← hx] at hti hw2 hfk hihk hnk
        obtain ⟨hxn, hxw, hxl⟩ := hfk
        have hxs := st_split hxn hxw
        have hxp := st_pos hxn
        have hxo : (lastT x).1 = op ↔ (isG x = true ∧ gop x = op) := by
          clear hx hihk hxs hxp hxl hti hw2 hnk
          cases x with
          | leaf s => exact ⟨fun h => by have := hxw.2; have : s.1 = op := h; omega, fun h => by cases h.1⟩
          | not j => exact ⟨fun h => by have : 5 = op := h; omega, fun h => by cases h.1⟩
          | group o ks => exact ⟨fun h => ⟨rfl, h⟩, fun h => h.2⟩
          | nil => exact hxn.elim
          | cons a b => exact hxn.elim
        have hxt : isG x = true → kidsT x = gks x ∧ 2 ≤ (gks x).length ∧ ndS (gks x) := fun h => by
          cases x with
          | group o ks => exact ⟨rfl, by have := hxw.2.1; rw [← toL_len] at this; exact this, hnk.1⟩
          | _ => cases h
        have hgw := gks_wf hxw
        have hgz := szL_gks hxw hxn
        have hgl : (gks x).length ≤ szL (gks x) := flat_len hgw
        have hpx := fun F A c hb => @parts_d B w0 F A c x hxn hxw (by omega) hb
        unfold PartsQ at hpx
        have hxlast : x.st.getD (x.st.length - 1) sNil = lastT x := by
          rw [hxs]; simp
        have hxc := step_cells (q := x.st) (k := x.st.length - 1) (by omega)
        rw [hxlast] at hxc
        obtain ⟨lx, hlx⟩ : ∃ lx, lx = lastT x := ⟨_, rfl⟩
        rw [← hlx] at hxo hxc
        have hszS : S.length ≤ 1000000 := by
          have := flat_len hw1
          unfold szL at *
          omega
        have hPS := addP_len hP
        have hzP : ∀ (PL : List Pq) (S : List Qt), PL.map (·.2.2) = S.map Qt.st → szL S ≤ 1000000 → ∀ e ∈ PL, e.2.2.length ≤ 1000000000 := fun PL S h h2 e he => by
          have h3 : e.2.2 ∈ S.map Qt.st := by rw [← h]; exact List.mem_map_of_mem (f := fun (e : Pq) => e.2.2) he
          obtain ⟨z, hz, hze⟩ := List.mem_map.1 h3
          have : z.st.length ≤ szL S := mem_flat_len hz
          rw [hze] at this
          omega
        refine vc_skip ?_
        refine then_next ?_
        refine vc_seq ?_
        refine vc_block ?_
        refine vc_seq ?_
        refine vc_region ?_
        refine vl_det (det_move rfl) rfl ?_
        refine vl_det (det_move rfl) rfl ?_
        refine vl_det (det_indexAddr (size := 1) Try.underlying31 (by kernel_rfl) rfl rfl rfl (by omega) (by first | (exact Bor.own (by repeat (first | exact List.Mem.head _ | apply List.Mem.tail))) | (repeat (first | assumption | apply Bor.cons)))) rfl ?_
        refine vl_det (det_load_row (by kernel_rfl) rfl (by first | (exact Bor.own (by repeat (first | exact List.Mem.head _ | apply List.Mem.tail))) | (repeat (first | assumption | apply Bor.cons))) (by omega) hg0) rfl ?_
        refine vl_call co13 rfl (hihk _ _ _ (hb0.mono (.cons _ (.cons _ (.cons_cons _ (List.sublist_append_right M F)))))) rfl ?_
        rintro _ _ ⟨A61, c61, rfl, hLL⟩
        obtain rfl := hLL.symm
        refine vl_det (det_assign rfl) rfl ?_
        refine vl_end [(3, _), (4, _), (6, _), (7, _), (8, _)] ⟨rfl, rfl, rfl, rfl, rfl, trivial⟩ ?_
        refine then_next ?_
        refine vc_seq ?_
        refine vc_seq ?_
        refine vq_region (by kernel_rfl) (by kernel_rfl) ?_
        refine vq_det (det_move rfl) rfl ?_
        refine vq_det (det_move rfl) rfl ?_
        refine vq_det (det_len_sl Try.underlying22 rfl) rfl ?_
        refine vq_det (det_sub rfl rfl (w_i64 (by omega) (by omega))) rfl ?_
        refine vq_det (det_indexAddr (i := x.st.length - 1) (size := 5) Try.underlying22 (by kernel_rfl) rfl rfl (by omega) (by omega) (by first | (exact Bor.own (by repeat (first | exact List.Mem.head _ | apply List.Mem.tail))) | (repeat (first | assumption | apply Bor.cons)))) rfl ?_
        refine vq_det (det_fieldAddr_row_ Try.underlying38 rfl (by kernel_rfl) rfl (by first | (exact Bor.own (by repeat (first | exact List.Mem.head _ | apply List.Mem.tail))) | (repeat (first | assumption | apply Bor.cons))) (by omega) rfl) rfl ?_
        refine vq_det (det_load_rowf (by kernel_rfl) rfl (by first | (exact Bor.own (by repeat (first | exact List.Mem.head _ | apply List.Mem.tail))) | (repeat (first | assumption | apply Bor.cons))) (by omega) (hxc 0 _ rfl)) rfl ?_
        refine vq_det (det_fieldAddr_ Try.underlying38 rfl (by kernel_rfl) rfl rfl) rfl ?_
        refine vq_det (det_load_blk (by kernel_rfl) rfl (by repeat (first | exact .hd | apply Sel.tl)) rfl) rfl ?_
        refine vq_det (det_neq rfl rfl) rfl ?_
        refine vq_end [(3, _), (4, _), (6, _), (7, _), (8, _), (71, _)] ⟨rfl, rfl, rfl, rfl, rfl, rfl, trivial⟩ ?_
        refine then_next ?_
        refine vc_decideU rfl (fun h71 => ?_) (fun h71 => ?_)
        · skip
          have hga : gath op S x = addQ S x := if_neg (fun h => h71 (hxo.2 h))
          refine vc_seq ?_
          refine vc_region ?_
          refine vl_det (det_move rfl) rfl ?_
          refine vl_det (det_move rfl) rfl ?_
          refine vl_call co31 rfl ((rput_d (hB.mono ((List.sublist_cons_self _ _).trans ((List.sublist_cons_self _ _).trans (List.sublist_cons_self _ _)))) (Bor.own (.head _)) (by omega) (by omega) (hzP _ _ hP (by omega))).perm swp) rfl ?_
          rintro _ _ ⟨A74, c74, rfl, hLL⟩
          obtain rfl := hLL.symm
          refine vl_det (det_assign rfl) rfl ?_
          refine vl_end [(3, _), (4, _), (6, _), (7, _)] ⟨rfl, rfl, rfl, rfl, trivial⟩ ?_
          refine then_next ?_
          refine vc_exit ?_
          refine then_exit ?_
          refine in_eq ?_
          refine then_next ?_
          refine vc_region ?_
          refine vl_det (det_move rfl) rfl ?_
          refine vl_det (det_add rfl rfl (w_i64 (by omega) (by omega))) rfl ?_
          refine vl_det (det_assign rfl) rfl ?_
          refine vl_end [(3, _), (4, _), (6, _), (7, _)] ⟨rfl, rfl, rfl, rfl, trivial⟩ ?_
          refine in_loop_ ⟨_, by omega, i + 1, addQ S x, addP PL (A61, c61, x.st), .own 38 5 A61 x.st.length c61 (stepsV x.st) :: M, A74, c74, ⟨by omega, by rw [hti, hga], addP_st hP rfl, addP_b (hB.mono (.cons _ (.refl _))) (Bor.own (.head _)), OneP.put (e := (A61, c61, x.st)) hO⟩, rfl, ⟨(by first | rfl | exact int_to (by omega) | exact sl_to (by omega)), (by first | rfl | exact int_to (by omega) | exact sl_to (by omega)), (by first | rfl | exact int_to (by omega) | exact sl_to (by omega)), (by first | rfl | exact int_to (by omega) | exact sl_to (by omega)), trivial⟩, (wu0 (wu1 (wu1 (wu0 (.refl _)))))⟩
        · skip
          have hg := hxo.1 (by omega)
          obtain ⟨hxk, hg2, hgn⟩ := hxt hg.1
          have hga : gath op S x = (gks x).foldl addQ S := if_pos hg
          rw [hxk] at hpx
          refine vc_skip ?_
          refine then_next ?_
          refine vc_seq ?_
          refine vc_region ?_
          refine vl_det (det_move rfl) rfl ?_
          refine vl_call co15 rfl (hpx _ _ _ (by first | (exact Bor.own (by repeat (first | exact List.Mem.head _ | apply List.Mem.tail))) | (repeat (first | assumption | apply Bor.cons)))) rfl ?_
          rintro _ _ ⟨A76, c76, PX, rfl, hxpl, hLL, hxpm, hxpb⟩
          obtain rfl := hLL.symm
          have hxb := hxpb (.own 38 5 A61 x.st.length c61 (stepsV x.st) :: (M ++ F)) (Bor.own (.head _))
          have hBx : PqB B w0 (.own 38 5 A61 x.st.length c61 (stepsV x.st) :: (M ++ F)) PL := hB.mono (.cons _ (.refl _))
          refine vl_det (det_assign rfl) rfl ?_
          refine vl_end [(3, _), (4, _), (6, _), (7, _), (9, _)] ⟨rfl, rfl, rfl, rfl, rfl, trivial⟩ ?_
          refine then_next ?_
          refine vc_seq ?_
          refine vc_region ?_
          refine vl_det (det_assign rfl) rfl ?_
          refine vl_end [(3, _), (4, _), (6, _), (7, _), (9, _), (10, _)] ⟨rfl, rfl, rfl, rfl, rfl, rfl, trivial⟩ ?_
          refine then_next ?_
          refine vc_block ?_
          refine vc_loopJ (fun zf zL zm => ∃ (j : Nat) (S2 : List Qt) (P2 : List Pq) (A4 : Option Addr) (c4 : Nat), (j ≤ (gks x).length ∧ S2 = ((gks x).take j).foldl addQ S ∧ P2.map (·.2.2) = S2.map Qt.st ∧ PqB B w0 (.own 38 5 A61 x.st.length c61 (stepsV x.st) :: (M ++ F)) P2) ∧ (gks x).length - j = zm ∧ Sub zf [(3, .pointer (some ⟨g3, 0, none⟩)), (4, .slice A20 l.length c20), (6, .slice A4 P2.length c4), (7, .int .i64 i), (9, .slice A76 (gks x).length c76), (10, .int .i64 j)] ∧ Wk zL (.own 22 1 A4 P2.length c4 (P2.map pqv) :: .own 22 1 A76 (gks x).length c76 (PX.map pqv) :: .own 38 5 A61 x.st.length c61 (stepsV x.st) :: .own 22 1 A20 l.length c20 (P0.map pqv) :: .blk g3 38 (StepC.cells (op, (l.length : Int), [], 0, 0)) :: (M ++ F))) _ ⟨0, S, PL, A3, c3, ⟨Nat.zero_le _, rfl, hP, hBx⟩, rfl, ⟨(by first | rfl | exact int_to (by omega) | exact sl_to (by omega)), (by first | rfl | exact int_to (by omega) | exact sl_to (by omega)), (by first | rfl | exact int_to (by omega) | exact sl_to (by omega)), (by first | rfl | exact int_to (by omega) | exact sl_to (by omega)), (by first | rfl | exact int_to (by omega) | exact sl_to (by omega)), (by first | rfl | exact int_to (by omega) | exact sl_to (by omega)), trivial⟩, (wu2 (wu0 (wu0 (wu0 (.refl _)))))⟩ ?_
          rintro _ _ _ ⟨j, S2, P2, A4, c4, ⟨hj, hS2, hP2, hB2⟩, rfl, hs, hp⟩
          refine vc_weaken _ hs (vc_wk hp ?_)
          clear hs hp
          refine vc_seq ?_
          refine vc_seq ?_
          refine vc_region ?_
          refine vl_det (det_move rfl) rfl ?_
          refine vl_det (det_move rfl) rfl ?_
          refine vl_det (det_len_sl Try.underlying31 rfl) rfl ?_
          refine vl_det (det_lss rfl rfl) rfl ?_
          refine vl_end [(3, _), (4, _), (6, _), (7, _), (9, _), (10, _), (80, _)] ⟨rfl, rfl, rfl, rfl, rfl, rfl, rfl, trivial⟩ ?_
          refine then_next ?_
          refine vc_decideU rfl (fun h80 => ?_) (fun h80 => ?_)
          · skip
            have hjl : j < (gks x).length := by omega
            have hgj := pq_get (PL := PX) (k := j) (by omega)
            have hmj := getD_mem (show j < PX.length by omega) ((none, 0, []) : Pq)
            have hbj := hxb _ hmj
            have hym := getD_mem hjl Qt.nil
            have hyz : ((gks x).getD j .nil).st.length ≤ szL (gks x) := mem_flat_len hym
            have hstj : (PX.getD j (none, 0, [])).2.2 = ((gks x).getD j .nil).st := by
              have h1 : (PX.map (·.2.2))[j]? = ((gks x).map Qt.st)[j]? := by rw [hxpm]
              rw [List.getElem?_map, List.getElem?_map, List.getElem?_eq_getElem (show j < PX.length by omega), List.getElem?_eq_getElem hjl] at h1
              simpa [List.getD, List.getElem?_eq_getElem (show j < PX.length by omega), List.getElem?_eq_getElem hjl] using h1
            have hs2 : ((gks x).take (j + 1)).foldl addQ S = addQ S2 ((gks x).getD j .nil) := by rw [take_getD hjl Qt.nil, List.foldl_append, ← hS2]; rfl
            have hz3 : szL S2 ≤ 1000000 := by
              have h1 := fold_sz ((gks x).take j) S
              have h2 : szL ((gks x).take j) ≤ szL (gks x) := by
                conv => rhs; rw [← List.take_append_drop j (gks x), szL_app]
                omega
              rw [← hS2] at h1
              omega
            have hw3 : ∀ t ∈ S2, t.isN ∧ t.wf := fun t ht => by
              rw [hS2] at ht
              rcases fold_mem ht with h | h
              · exact hw1 t h
              · exact hgw t (List.mem_of_mem_take h)
            have hl3 : S2.length ≤ 1000000 := by
              have := flat_len hw3
              unfold szL at hz3
              omega
            have hPS2 := addP_len hP2
            obtain ⟨y, hy⟩ : ∃ y, y = (gks x).getD j .nil := ⟨_, rfl⟩
            rw [← hy] at hyz hstj hs2
            obtain ⟨⟨A9, c9, q9⟩, he9⟩ : ∃ e, e = PX.getD j (none, 0, []) := ⟨_, rfl⟩
            rw [← he9] at hgj hbj hstj
            obtain rfl : q9 = y.st := hstj
            refine vc_skip ?_
            refine then_next ?_
            refine vc_seq ?_
            refine vc_block ?_
            refine vc_region ?_
            refine vl_det (det_move rfl) rfl ?_
            refine vl_det (det_move rfl) rfl ?_
            refine vl_det (det_move rfl) rfl ?_
            refine vl_det (det_indexAddr (size := 1) Try.underlying31 (by kernel_rfl) rfl rfl rfl (by omega) (by first | (exact Bor.own (by repeat (first | exact List.Mem.head _ | apply List.Mem.tail))) | (repeat (first | assumption | apply Bor.cons)))) rfl ?_
            refine vl_det (det_load_row (by kernel_rfl) rfl (by first | (exact Bor.own (by repeat (first | exact List.Mem.head _ | apply List.Mem.tail))) | (repeat (first | assumption | apply Bor.cons))) (by omega) hgj) rfl ?_
            refine vl_call co31 rfl (rput_d (hB2.mono (.cons _ (.cons_cons _ (.cons _ (.cons _ (.refl _)))))) (hbj.mono (.cons _ (.cons_cons _ (.cons _ (.cons _ (.refl _)))))) (show y.st.length ≤ 1000000000 by omega) (by omega) (hzP _ _ hP2 hz3)) rfl ?_
            rintro _ _ ⟨A88, c88, rfl, hLL⟩
            obtain rfl := hLL.symm
            refine vl_det (det_assign rfl) rfl ?_
            refine vl_end [(3, _), (4, _), (6, _), (7, _), (9, _), (10, _)] ⟨rfl, rfl, rfl, rfl, rfl, rfl, trivial⟩ ?_
            refine in_normal ?_
            refine then_next ?_
            refine vc_region ?_
            refine vl_det (det_move rfl) rfl ?_
            refine vl_det (det_add rfl rfl (w_i64 (by omega) (by omega))) rfl ?_
            refine vl_det (det_assign rfl) rfl ?_
            refine vl_end [(3, _), (4, _), (6, _), (7, _), (9, _), (10, _)] ⟨rfl, rfl, rfl, rfl, rfl, rfl, trivial⟩ ?_
            refine in_loop_ ⟨_, by omega, j + 1, addQ S2 y, addP P2 (A9, c9, y.st), A88, c88, ⟨by omega, hs2.symm, addP_st hP2 rfl, addP_b hB2 hbj⟩, rfl, ⟨(by first | rfl | exact int_to (by omega) | exact sl_to (by omega)), (by first | rfl | exact int_to (by omega) | exact sl_to (by omega)), (by first | rfl | exact int_to (by omega) | exact sl_to (by omega)), (by first | rfl | exact int_to (by omega) | exact sl_to (by omega)), (by first | rfl | exact int_to (by omega) | exact sl_to (by omega)), (by first | rfl | exact int_to (by omega) | exact sl_to (by omega)), trivial⟩, .refl _⟩
          · skip
            obtain rfl : j = (gks x).length := by omega
            rw [List.take_length, ← hga, ← hti] at hS2
            have hne : ¬ P2.length = 1 := by
              rw [addP_len hP2, hS2, hti, hga]
              exact fold_two hg2 hgn
            refine vc_exit ?_
            refine then_exit ?_
            refine loop_exit ?_
            refine in_eq ?_
            refine in_normal ?_
            refine then_next ?_
            refine vc_region ?_
            refine vl_det (det_move rfl) rfl ?_
            refine vl_det (det_add rfl rfl (w_i64 (by omega) (by omega))) rfl ?_
            refine vl_det (det_assign rfl) rfl ?_
            refine vl_end [(3, _), (4, _), (6, _), (7, _)] ⟨rfl, rfl, rfl, rfl, trivial⟩ ?_
            refine in_loop_ ⟨_, by omega, i + 1, S2, P2, .own 38 5 A61 x.st.length c61 (stepsV x.st) :: M, A4, c4, ⟨by omega, hS2, hP2, hB2, fun h => absurd h hne⟩, rfl, ⟨(by first | rfl | exact int_to (by omega) | exact sl_to (by omega)), (by first | rfl | exact int_to (by omega) | exact sl_to (by omega)), (by first | rfl | exact int_to (by omega) | exact sl_to (by omega)), (by first | rfl | exact int_to (by omega) | exact sl_to (by omega)), trivial⟩, (wu0 (wu2 (wu2 (wu1 (.skip (.refl _))))))⟩
      · skip
        obtain rfl : i = l.length := by omega
        rw [List.take_length] at hS
        have hPS := addP_len hP
        have hzS := hzz l.length
        have hwS := hww l.length
        rw [List.take_length, ← hS] at hzS hwS
        have hlS := flat_len hwS
        have hzS2 := hzS
        unfold szL at hzS2 hsz
        refine vc_exit ?_
        refine then_exit ?_
        refine loop_exit ?_
        refine in_eq ?_
        refine then_next ?_
        refine vc_seq ?_
        refine vc_seq ?_
        refine vc_region ?_
        refine vl_det (det_move rfl) rfl ?_
        refine vl_det (det_len_sl Try.underlying31 rfl) rfl ?_
        refine vl_det (det_eql rfl rfl) rfl ?_
        refine vl_end [(3, _), (6, _), (91, _)] ⟨rfl, rfl, rfl, trivial⟩ ?_
        refine then_next ?_
        refine vc_decideU rfl (fun h91 => ?_) (fun h91 => ?_)
        · skip
          have hmk : mkG op ((l.map flatT).foldl (gath op) []) = S.getD 0 .nil := by rw [← hS]; exact if_pos (by omega)
          rw [hmk]
          have hO1 := hO (by omega)
          have hg0 := pq_get (PL := PL) (k := 0) (by omega)
          have hst0 : (PL.getD 0 (none, 0, [])).2.2 = (S.getD 0 .nil).st := by
            have h1 : (PL.map (·.2.2))[0]? = (S.map Qt.st)[0]? := by rw [hP]
            rw [List.getElem?_map, List.getElem?_map, List.getElem?_eq_getElem (show 0 < PL.length by omega), List.getElem?_eq_getElem (show 0 < S.length by omega)] at h1
            simpa [List.getD, List.getElem?_eq_getElem (show 0 < PL.length by omega), List.getElem?_eq_getElem (show 0 < S.length by omega)] using h1
          obtain ⟨⟨A8, c8, q8⟩, he8⟩ : ∃ e, e = PL.getD 0 (none, 0, []) := ⟨_, rfl⟩
          rw [← he8] at hg0 hO1 hst0
          obtain rfl : q8 = (S.getD 0 .nil).st := hst0
          refine vc_seq ?_
          refine vc_region ?_
          refine vl_det (det_move rfl) rfl ?_
          refine vl_det (det_indexAddr (i := 0) (size := 1) Try.underlying31 (by kernel_rfl) rfl rfl rfl (by omega) (by first | (exact Bor.own (by repeat (first | exact List.Mem.head _ | apply List.Mem.tail))) | (repeat (first | assumption | apply Bor.cons)))) rfl ?_
          refine vl_det (det_load_row (by kernel_rfl) rfl (by first | (exact Bor.own (by repeat (first | exact List.Mem.head _ | apply List.Mem.tail))) | (repeat (first | assumption | apply Bor.cons))) (by omega) hg0) rfl ?_
          refine vl_det (det_assign rfl) rfl ?_
          refine vl_end [(2, _)] ⟨rfl, trivial⟩ ?_
          refine then_next ?_
          refine vc_ret ?_
          refine then_ret ?_
          refine ret_wk (L' := .own 38 5 A8 (S.getD 0 .nil).st.length c8 (stepsV (S.getD 0 .nil).st) :: F) (.skip (.skip (.skip hO1))) ?_
          refine ret1 rfl rfl ?_
          exact ⟨A8, c8, rfl, rfl⟩
        · skip
          have hmk : mkG op ((l.map flatT).foldl (gath op) []) = .group op (ofL S) := by rw [← hS]; exact if_neg (by omega)
          have hGs : (Qt.group op (ofL S)).st = S.flatMap Qt.st ++ [(op, (S.length : Int), [], 0, 0)] := by show (ofL S).st ++ _ = _; rw [ofL_st, ofL_len]
          have hGl : (Qt.group op (ofL S)).st.length = (S.flatMap Qt.st).length + 1 := by rw [hGs]; simp
          have hGv : stepsV (Qt.group op (ofL S)).st = stepsV (S.flatMap Qt.st) ++ StepC.cells (op, (PL.length : Int), [], 0, 0) := by rw [hGs, steps_app, steps_sing, hPS]
          rw [hmk, hGl, hGv]
          have hone2 := step_one (op, (PL.length : Int), [], 0, 0)
          have htS : ∀ i, i < S.length → (S.take (i + 1)).flatMap Qt.st = (S.take i).flatMap Qt.st ++ (S.getD i .nil).st := fun i hi => by
            rw [take_getD hi .nil, List.flatMap_append, List.flatMap_singleton]
          have hle : ∀ i, i ≤ S.length → ((S.take i).flatMap Qt.st).length ≤ (S.flatMap Qt.st).length := fun i hi => by
            conv => rhs; rw [← List.take_append_drop i S, List.flatMap_append, List.length_append]
            omega
          refine vc_skip ?_
          refine then_next ?_
          refine vc_seq ?_
          refine vc_nil_row 38 5 none ?_
          refine vc_region ?_
          refine vl_det (det_assign rfl) rfl ?_
          refine vl_end [(3, _), (6, _), (11, _)] ⟨rfl, rfl, rfl, trivial⟩ ?_
          refine then_next ?_
          refine vc_seq ?_
          refine vc_seq ?_
          refine vc_region ?_
          refine vl_det (det_assign rfl) rfl ?_
          refine vl_end [(3, _), (6, _), (11, _), (12, _)] ⟨rfl, rfl, rfl, rfl, trivial⟩ ?_
          refine then_next ?_
          refine vc_block ?_
          refine vc_loopJ (fun zf zL zm => ∃ (j : Nat) (A4 : Option Addr) (c4 : Nat), (j ≤ S.length) ∧ S.length - j = zm ∧ Sub zf [(3, .pointer (some ⟨g3, 0, none⟩)), (6, .slice A3 PL.length c3), (11, .slice A4 ((S.take j).flatMap Qt.st).length c4), (12, .int .i64 j)] ∧ Wk zL (.own 38 5 A4 ((S.take j).flatMap Qt.st).length c4 (stepsV ((S.take j).flatMap Qt.st)) :: .own 22 1 A3 PL.length c3 (PL.map pqv) :: .own 22 1 A20 l.length c20 (P0.map pqv) :: .blk g3 38 (StepC.cells (op, (l.length : Int), [], 0, 0)) :: (M ++ F))) _ ⟨0, none, 0, Nat.zero_le _, rfl, ⟨(by first | rfl | exact int_to (by omega) | exact sl_to (by omega)), (by first | rfl | exact int_to (by omega) | exact sl_to (by omega)), (by first | rfl | exact int_to (by omega) | exact sl_to (by omega)), (by first | rfl | exact int_to (by omega) | exact sl_to (by omega)), trivial⟩, .refl _⟩ ?_
          rintro _ _ _ ⟨j, A4, c4, hj, rfl, hs, hp⟩
          refine vc_weaken _ hs (vc_wk hp ?_)
          clear hs hp
          refine vc_seq ?_
          refine vc_seq ?_
          refine vc_region ?_
          refine vl_det (det_move rfl) rfl ?_
          refine vl_det (det_move rfl) rfl ?_
          refine vl_det (det_len_sl Try.underlying31 rfl) rfl ?_
          refine vl_det (det_lss rfl rfl) rfl ?_
          refine vl_end [(3, _), (6, _), (11, _), (12, _), (98, _)] ⟨rfl, rfl, rfl, rfl, rfl, trivial⟩ ?_
          refine then_next ?_
          refine vc_decideU rfl (fun h98 => ?_) (fun h98 => ?_)
          · skip
            have hjl : j < S.length := by omega
            have hgj := pq_get (PL := PL) (k := j) (by omega)
            have hmj := getD_mem (show j < PL.length by omega) ((none, 0, []) : Pq)
            have hbj := hB _ hmj
            have hl1 := hle j (by omega)
            have hl2 := hle (j + 1) (by omega)
            have htj := htS j hjl
            rw [htj, List.length_append] at hl2
            have hstj : (PL.getD j (none, 0, [])).2.2 = (S.getD j .nil).st := by
              have h1 : (PL.map (·.2.2))[j]? = (S.map Qt.st)[j]? := by rw [hP]
              rw [List.getElem?_map, List.getElem?_map, List.getElem?_eq_getElem (show j < PL.length by omega), List.getElem?_eq_getElem hjl] at h1
              simpa [List.getD, List.getElem?_eq_getElem (show j < PL.length by omega), List.getElem?_eq_getElem hjl] using h1
            obtain ⟨y, hy⟩ : ∃ y, y = S.getD j .nil := ⟨_, rfl⟩
            rw [← hy] at hstj htj hl2
            obtain ⟨⟨A9, c9, q9⟩, he9⟩ : ∃ e, e = PL.getD j (none, 0, []) := ⟨_, rfl⟩
            rw [← he9] at hgj hbj hstj
            obtain rfl : q9 = y.st := hstj
            have hbj2 : Bor B w0 (.own 38 5 A4 ((S.take j).flatMap Qt.st).length c4 (stepsV ((S.take j).flatMap Qt.st)) :: .own 22 1 A3 PL.length c3 (PL.map pqv) :: .own 22 1 A20 l.length c20 (P0.map pqv) :: .blk g3 38 (StepC.cells (op, (l.length : Int), [], 0, 0)) :: (M ++ F)) 5 (.slice A9 y.st.length c9) y.st.length (stepsV y.st) := hbj.mono (.cons _ (.cons _ (.cons _ (.cons _ (.refl _)))))
            refine vc_skip ?_
            refine then_next ?_
            refine vc_seq ?_
            refine vc_block ?_
            refine vc_region ?_
            refine vl_det (det_move rfl) rfl ?_
            refine vl_det (det_move rfl) rfl ?_
            refine vl_det (det_move rfl) rfl ?_
            refine vl_det (det_indexAddr (size := 1) Try.underlying31 (by kernel_rfl) rfl rfl rfl (by omega) (by first | (exact Bor.own (by repeat (first | exact List.Mem.head _ | apply List.Mem.tail))) | (repeat (first | assumption | apply Bor.cons)))) rfl ?_
            refine vl_det (det_load_row (by kernel_rfl) rfl (by first | (exact Bor.own (by repeat (first | exact List.Mem.head _ | apply List.Mem.tail))) | (repeat (first | assumption | apply Bor.cons))) (by omega) hgj) rfl ?_
            refine vl_eff (eff_app slT22 rfl (by repeat (first | exact .hd | apply Sel.tl)) rfl hbj2 (steps_one _) (by omega) (by omega)) rfl ?_
            rintro _ _ ⟨A106, c106, rfl, rfl⟩
            refine vl_det (det_assign rfl) rfl ?_
            refine vl_end [(3, _), (6, _), (11, _), (12, _)] ⟨rfl, rfl, rfl, rfl, trivial⟩ ?_
            refine in_normal ?_
            refine then_next ?_
            refine vc_region ?_
            refine vl_det (det_move rfl) rfl ?_
            refine vl_det (det_add rfl rfl (w_i64 (by omega) (by omega))) rfl ?_
            refine vl_det (det_assign rfl) rfl ?_
            refine vl_end [(3, _), (6, _), (11, _), (12, _)] ⟨rfl, rfl, rfl, rfl, trivial⟩ ?_
            have hel : ((S.take j).flatMap Qt.st).length + y.st.length = ((S.take (j + 1)).flatMap Qt.st).length := by rw [htj, List.length_append]
            refine in_loop_ ⟨_, by omega, j + 1, A106, c106, by omega, rfl, ⟨(by first | rfl | exact int_to (by omega) | exact sl_to (by omega)), (by first | rfl | exact int_to (by omega) | exact sl_to (by omega)), (by first | rfl | exact int_to (by omega) | exact sl_to (by omega)), (by first | rfl | exact int_to (by omega) | exact sl_to (by omega)), trivial⟩, wk_own hel (by rw [htj, steps_app]) (.refl _)⟩
          · skip
            obtain rfl : j = S.length := by omega
            rw [List.take_length]
            refine vc_exit ?_
            refine then_exit ?_
            refine loop_exit ?_
            refine in_eq ?_
            refine then_next ?_
            refine vc_seq ?_
            refine vc_region ?_
            refine vl_det (det_move rfl) rfl ?_
            refine vl_det (det_fieldAddr_ Try.underlying38 rfl (by kernel_rfl) rfl rfl) rfl ?_
            refine vl_det (det_load_blk (by kernel_rfl) rfl (by repeat (first | exact .hd | apply Sel.tl)) rfl) rfl ?_
            refine vl_det (det_move rfl) rfl ?_
            refine vl_det (det_len_sl Try.underlying31 rfl) rfl ?_
            refine vl_det (det_buildp [(0, _), (1, _)] [.int .i64 0, .int .i64 0, .string ⟨#[]⟩, .int .u64 0, .int .u64 0] [0, 1] [_, _, _, _, _] rfl rfl (by kernel_rfl)) rfl ?_
            refine vl_pushs slT22 rfl rfl rfl (by omega) (by first | exact bv_one _ | exact strs_one _ | exact ints_one _ _ | (simp; done) | (simp [Value.oneCell']; done) | assumption) rfl rfl rfl (fun _ => rfl) (by repeat (first | exact .hd | apply Sel.tl)) (by omega) (by omega) ?_
            intro _ A114 c114
            refine vl_det (det_assign rfl) rfl ?_
            refine vl_end [(2, _)] ⟨rfl, trivial⟩ ?_
            refine then_next ?_
            refine vc_ret ?_
            refine ret_wk (L' := .own 38 5 A114 ((S.flatMap Qt.st).length + 1) c114 (stepsV (S.flatMap Qt.st) ++ StepC.cells (op, (PL.length : Int), [], 0, 0)) :: F) (.cons (.skip (.skip (.skip (wk_front M F))))) ?_
            refine ret1 rfl rfl ?_
            exact ⟨A114, c114, rfl, rfl⟩
theorem rflat_d {t : Qt} (h1 : t.isN) (h2 : t.wf) : RFlQ B w0 t :=
  (Qt.ind (P := fun t => RFlQ B w0 t) (fun s a b => rflat_leaf a b) (fun k a b ih => rflat_not a b ih) (fun op l a b c ih => rflat_grp a b c ih) t h2).1 h1
end Go.Proofs.Ytakokckokchacaa
