/-
  'PlanParts': the parts of any query are the document's; put together by its last step they are the query. No condition.
-/
import Derived.Test.YtakokckokchacaaPa7
import Derived.Test.YtakokckokchacaaRows
namespace Go.Proofs.Ytakokckokchacaa.lawPlanParts
open Go.ChangeShapes Go.WideShapes Go.ChangeAt Go.RowKit
open Go.ChangeMaps (open_string shut_string)
set_option linter.unusedVariables false
set_option maxRecDepth 20000
theorem qsame_t {B : Nat} {w0 : World} {F : List Ch} {A A2 : Option Addr} {c c2 : Nat} {l l2 : List StepC} (h : l = l2) (h1 : Bor B w0 F 5 (.slice A l.length c) l.length (stepsV l)) (h2 : Bor B w0 F 5 (.slice A2 l2.length c2) l2.length (stepsV l2)) (hl : l.length ≤ 1000000000) :
    Does Try.prog B w0 12 [.slice A l.length c, .slice A2 l2.length c2] F (fun r L => r = .bool true ∧ L = F) := by
  have := qsame_d h1 h2 hl
  rwa [decide_eq_true h] at this
theorem qsame_n {B : Nat} {w0 : World} {F : List Ch} {A A2 : Option Addr} {n c c2 : Nat} {q : List StepC} {xs : List Value} (hn : n = q.length) (hx : xs = stepsV q) (h1 : Bor B w0 F 5 (.slice A n c) n xs) (h2 : Bor B w0 F 5 (.slice A2 q.length c2) q.length (stepsV q)) (hl : q.length ≤ 1000000000) :
    Does Try.prog B w0 12 [.slice A n c, .slice A2 q.length c2] F (fun r L => r = .bool true ∧ L = F) := by
  subst hn; subst hx
  exact qsame_t rfl h1 h2 hl
theorem stAt {PL : List Pq} {l : List Qt} {i : Nat} (h : PL.map (·.2.2) = l.map Qt.st) (hi : i < l.length) : (PL.getD i (none, 0, [])).2.2 = (l.getD i .nil).st := by
  have hl : i < PL.length := by have := congrArg List.length h; simp at this; omega
  have h1 : (PL.map (·.2.2))[i]? = (l.map Qt.st)[i]? := by rw [h]
  rw [List.getElem?_map, List.getElem?_map, List.getElem?_eq_getElem hl, List.getElem?_eq_getElem hi] at h1
  simpa [List.getD, List.getElem?_eq_getElem hl, List.getElem?_eq_getElem hi] using h1
theorem walk (w : World) (v : Value) (q : List StepC) (hr : Rd w w.heap.size 5 v q.length (q.flatMap StepC.cells)) (ho : ∀ x ∈ q, StepC.ok x) (hm : q.length ≤ maxLen) :
    Calls Try.prog 4 #[v] w fun e w' => e = .returned (.bool true) ∧ Below w.heap.size w w' := by
  obtain ⟨A0, c0, rfl, _⟩ := hr.form
  have hbo : Bor w.heap.size w [] 5 (.slice A0 q.length c0) q.length (stepsV q) := Bor.in_ hr
  simp only [maxLen] at hm
  have hck := fun F A c hb => @rcheck_d w.heap.size w F A c q hb
  refine Does.law (args := [.slice A0 q.length c0]) ?_
  by_cases hq : checkQ q = 0
  · rw [hq] at hck
    obtain ⟨t, k1, k2, k3, k4, k5, k6, k7⟩ := check_ok hq
    have hpf := fun F A c hb => @pparts_ok w.heap.size w F A c q t hb hq k1 k2 k3 k4 k5 k6
    have hrf := fun F A c hb => @parts_d w.heap.size w F A c t k4 k5 (by rw [k6]; omega) hb
    unfold PPartsQ at hpf
    unfold PartsQ at hrf
    have hsp := st_split k4 k5
    have hkw := kidsT_wf k5
    have hkd : ∀ k ∈ kidsT t, k.dep ≤ 64 := fun k hk => by
      have h9 : k.dep ≤ t.dep := by
        clear hpf hrf hsp hkw k2
        cases t with
        | not j => rw [show k = j by simpa [kidsT] using hk]; exact Nat.le_succ _
        | group op ks =>
          have h4 := toL_dep k5.2.2.1 k5.2.2.2
          have h5 : ∀ (l : List Nat) (y : Nat), y ∈ l → y ≤ maxL l := by
            intro l
            induction l with
            | nil => intro y hy; simp at hy
            | cons a r ih =>
              intro y hy
              rcases List.mem_cons.1 hy with e | hy
              · rw [e]; simp only [maxL]; omega
              · have := ih y hy; simp only [maxL]; omega
          have h6 := h5 _ _ (List.mem_map_of_mem (f := Qt.dep) (show k ∈ toL ks from hk))
          have h7 : (Qt.group op ks).dep = ks.dep + 1 := rfl
          omega
        | _ => simp [kidsT] at hk
      omega
    rw [k6] at hrf hsp
    have hkm : ∀ k ∈ kidsT t, k.st.length ≤ ((kidsT t).flatMap Qt.st).length := fun k hk => mem_flat_len hk
    have hkl := flat_len hkw
    have hql := congrArg List.length hsp
    rw [List.length_append, List.length_singleton] at hql
    obtain ⟨l, hl⟩ : ∃ l, l = kidsT t := ⟨_, rfl⟩
    rw [← hl] at hpf hrf hsp hkw hkd hkm hkl hql
    obtain ⟨ls, hls⟩ : ∃ ls, ls = lastT t := ⟨_, rfl⟩
    rw [← hls] at hsp
    have hcl := step_cells (q := q) (k := q.length - 1) (by omega)
    rw [show q.getD (q.length - 1) sNil = ls by rw [show q.length - 1 = (l.flatMap Qt.st).length by omega, hsp]; simp] at hcl
    have hone := step_one ls
    have hle : ∀ i, i ≤ l.length → ((l.take i).flatMap Qt.st).length ≤ (l.flatMap Qt.st).length := fun i hi => by
      conv => rhs; rw [← List.take_append_drop i l, List.flatMap_append, List.length_append]
      omega
    refine fn_walk Try.func4 83 rfl rfl rfl [(0, .slice A0 q.length c0)] ⟨⟨rfl, rfl⟩, trivial⟩ ?_
    refine vc_seq ?_
    refine vc_region ?_
    refine vl_det (det_assign rfl) rfl ?_
    refine vl_end [(0, _)] ⟨rfl, trivial⟩ ?_
    refine then_next ?_
    refine vc_seq ?_
    refine vc_seq ?_
    refine vc_region ?_
    refine vl_call co9 rfl (alive_d) rfl ?_
    rintro _ _ ⟨rfl, hLL⟩
    obtain rfl := hLL.symm
    refine vl_det (det_not_t rfl) rfl ?_
    refine vl_end [(0, _), (10, _)] ⟨rfl, rfl, trivial⟩ ?_
    refine then_next ?_
    refine vc_cond_f rfl ?_
    refine vc_skip ?_
    refine then_next ?_
    refine vc_seq ?_
    refine vc_region ?_
    refine vl_det (det_move rfl) rfl ?_
    refine vl_call co10 rfl (hck _ _ _ (by first | (exact Bor.own (by repeat (first | exact List.Mem.head _ | apply List.Mem.tail))) | (repeat (first | assumption | apply Bor.cons)))) rfl ?_
    rintro _ _ ⟨rfl, hLL⟩
    obtain rfl := hLL.symm
    refine vl_det (det_assign rfl) rfl ?_
    refine vl_end [(0, _), (3, _)] ⟨rfl, rfl, trivial⟩ ?_
    refine then_next ?_
    refine vc_seq ?_
    refine vc_region ?_
    refine vl_det (det_move rfl) rfl ?_
    refine vl_call co14 rfl (hpf _ _ _ (by first | (exact Bor.own (by repeat (first | exact List.Mem.head _ | apply List.Mem.tail))) | (repeat (first | assumption | apply Bor.cons)))) rfl ?_
    rintro _ _ ⟨A1, c1, PA, MA, rfl, hAl, hLL, hAm, hAb⟩
    obtain rfl := hLL.symm
    refine vl_det (det_move rfl) rfl ?_
    refine vl_det (det_extract rfl rfl) rfl ?_
    refine vl_det (det_extract rfl rfl) rfl ?_
    refine vl_det (det_assign rfl) rfl ?_
    refine vl_det (det_assign rfl) rfl ?_
    refine vl_end [(0, _), (3, _), (4, _), (5, _)] ⟨rfl, rfl, rfl, rfl, trivial⟩ ?_
    refine then_next ?_
    refine vc_seq ?_
    refine vc_seq ?_
    refine vc_region ?_
    refine vl_det (det_move rfl) rfl ?_
    refine vl_det (det_neq rfl rfl) rfl ?_
    refine vl_end [(0, _), (3, _), (4, _), (5, _), (19, _)] ⟨rfl, rfl, rfl, rfl, rfl, trivial⟩ ?_
    refine then_next ?_
    refine vc_decideU rfl (fun h19 => ?_) (fun h19 => ?_)
    · skip
      exfalso; exact h19 rfl
    · skip
      refine vc_skip ?_
      refine then_next ?_
      refine vc_seq ?_
      refine vc_seq ?_
      refine vc_region ?_
      refine vl_det (det_move rfl) rfl ?_
      refine vl_det (det_len_sl Try.underlying22 rfl) rfl ?_
      refine vl_det (det_gtr rfl rfl) rfl ?_
      refine vl_end [(0, _), (4, _), (5, _), (30, _)] ⟨rfl, rfl, rfl, rfl, trivial⟩ ?_
      refine then_next ?_
      refine vc_decideU rfl (fun h30 => ?_) (fun h30 => ?_)
      · skip
        refine vc_seq ?_
        refine vc_region ?_
        refine vl_det (det_assign rfl) rfl ?_
        refine vl_end [(2, _)] ⟨rfl, trivial⟩ ?_
        refine then_next ?_
        refine vc_ret ?_
        refine then_ret ?_
        refine ret1 rfl rfl ?_
        rfl
      · skip
        refine vc_skip ?_
        refine then_next ?_
        refine vc_seq ?_
        have hbo0 : Bor w.heap.size w (.own 22 1 A1 l.length c1 (PA.map pqv) :: (MA ++ [])) 5 (.slice A0 q.length c0) q.length (stepsV q) := hbo.mono (List.nil_sublist _)
        refine vc_region ?_
        refine vl_det (det_move rfl) rfl ?_
        refine vl_call co15 rfl (hrf _ _ _ hbo0) rfl ?_
        rintro _ _ ⟨A2, c2, PR, rfl, hRl, hLL, hRm, hRb⟩
        obtain rfl := hLL.symm
        refine vl_det (det_assign rfl) rfl ?_
        refine vl_end [(0, _), (4, _), (5, _), (6, _)] ⟨rfl, rfl, rfl, rfl, trivial⟩ ?_
        refine then_next ?_
        refine vc_seq ?_
        refine vc_seq ?_
        refine vc_region ?_
        refine vl_det (det_move rfl) rfl ?_
        refine vl_det (det_neq rfl rfl) rfl ?_
        refine vl_det (det_move rfl) rfl ?_
        refine vl_guardn rfl rfl rfl (fun h35 => ?_) (fun h35 => ?_)
        · skip
          refine vl_det (det_move rfl) rfl ?_
          refine vl_guard_t rfl rfl ?_
          refine vl_det (det_len_sl Try.underlying31 rfl) rfl ?_
          refine vl_guard_t rfl rfl ?_
          refine vl_det (det_move rfl) rfl ?_
          refine vl_guard_t rfl rfl ?_
          refine vl_det (det_len_sl Try.underlying31 rfl) rfl ?_
          refine vl_guard_t rfl rfl ?_
          refine vl_det (det_neq rfl rfl) rfl ?_
          refine vl_det (det_pick_f rfl rfl) rfl ?_
          refine vl_end [(0, _), (4, _), (6, _), (41, _)] ⟨rfl, rfl, rfl, rfl, trivial⟩ ?_
          refine then_next ?_
          refine vc_decideU rfl (fun h41 => ?_) (fun h41 => ?_)
          · skip
            exfalso; exact h41 rfl
          · skip
            refine vc_skip ?_
            refine then_next ?_
            refine vc_seq ?_
            refine vc_nil_row 38 5 none ?_
            have hR : PqB w.heap.size w [] PR := hRb [] hbo
            refine vc_region ?_
            refine vl_det (det_assign rfl) rfl ?_
            refine vl_end [(0, _), (4, _), (6, _), (7, _)] ⟨rfl, rfl, rfl, rfl, trivial⟩ ?_
            refine then_next ?_
            refine vc_seq ?_
            refine vc_seq ?_
            refine vc_region ?_
            refine vl_det (det_assign rfl) rfl ?_
            refine vl_end [(0, _), (4, _), (6, _), (7, _), (8, _)] ⟨rfl, rfl, rfl, rfl, rfl, trivial⟩ ?_
            refine then_next ?_
            refine vc_block ?_
            refine vc_loopJ (fun zf zL zm => ∃ (i : Nat) (A4 : Option Addr) (c4 : Nat), (i ≤ l.length) ∧ l.length - i = zm ∧ Sub zf [(0, .slice A0 q.length c0), (4, .slice A1 l.length c1), (6, .slice A2 l.length c2), (7, .slice A4 ((l.take i).flatMap Qt.st).length c4), (8, .int .i64 i)] ∧ Wk zL (.own 38 5 A4 ((l.take i).flatMap Qt.st).length c4 (stepsV ((l.take i).flatMap Qt.st)) :: .own 22 1 A2 l.length c2 (PR.map pqv) :: .own 22 1 A1 l.length c1 (PA.map pqv) :: (MA ++ []))) _ ⟨0, none, 0, Nat.zero_le _, rfl, ⟨(by first | rfl | exact int_to (by omega) | exact sl_to (by omega)), (by first | rfl | exact int_to (by omega) | exact sl_to (by omega)), (by first | rfl | exact int_to (by omega) | exact sl_to (by omega)), (by first | rfl | exact int_to (by omega) | exact sl_to (by omega)), (by first | rfl | exact int_to (by omega) | exact sl_to (by omega)), trivial⟩, .refl _⟩ ?_
            rintro _ _ _ ⟨i, A4, c4, hi, rfl, hs, hp⟩
            refine vc_weaken _ hs (vc_wk hp ?_)
            clear hs hp
            refine vc_seq ?_
            refine vc_seq ?_
            refine vc_region ?_
            refine vl_det (det_move rfl) rfl ?_
            refine vl_det (det_move rfl) rfl ?_
            refine vl_det (det_len_sl Try.underlying31 rfl) rfl ?_
            refine vl_det (det_lss rfl rfl) rfl ?_
            refine vl_end [(0, _), (4, _), (6, _), (7, _), (8, _), (45, _)] ⟨rfl, rfl, rfl, rfl, rfl, rfl, trivial⟩ ?_
            refine then_next ?_
            refine vc_decideU rfl (fun h45 => ?_) (fun h45 => ?_)
            · skip
              have hil : i < l.length := by omega
              have hga := pq_get (PL := PA) (k := i) (by omega)
              have hgr := pq_get (PL := PR) (k := i) (by omega)
              have hba := hAb _ (getD_mem (show i < PA.length by omega) ((none, 0, []) : Pq))
              have hbr := hR _ (getD_mem (show i < PR.length by omega) ((none, 0, []) : Pq))
              have hsa := stAt hAm hil
              have hsr := stAt hRm hil
              have hmem := getD_mem hil Qt.nil
              obtain ⟨w1, w2⟩ := hkw _ hmem
              have w3 := hkd _ hmem
              have w4 := hkm _ hmem
              have hl1 := hle i (by omega)
              have hl2 := hle (i + 1) (by omega)
              have htk : (l.take (i + 1)).flatMap Qt.st = (l.take i).flatMap Qt.st ++ (l.getD i .nil).st := by
                rw [take_getD hil .nil, List.flatMap_append, List.flatMap_singleton]
              rw [htk, List.length_append] at hl2
              obtain ⟨k, hk⟩ : ∃ k, k = l.getD i .nil := ⟨_, rfl⟩
              rw [← hk] at hsa hsr w1 w2 w3 w4 htk hl2
              obtain ⟨⟨A8, c8, q8⟩, he8⟩ : ∃ e, e = PA.getD i (none, 0, []) := ⟨_, rfl⟩
              rw [← he8] at hga hba hsa
              obtain rfl : q8 = k.st := hsa
              obtain ⟨⟨A9, c9, q9⟩, he9⟩ : ∃ e, e = PR.getD i (none, 0, []) := ⟨_, rfl⟩
              rw [← he9] at hgr hbr hsr
              obtain rfl : q9 = k.st := hsr
              have hck0 := checkQ_st w1 w2 (by omega) w3
              have hca := fun F A c hb => @check_d w.heap.size w F A c k.st hb
              rw [hck0] at hca
              have hba2 : Bor w.heap.size w (.own 38 5 A4 ((l.take i).flatMap Qt.st).length c4 (stepsV ((l.take i).flatMap Qt.st)) :: .own 22 1 A2 l.length c2 (PR.map pqv) :: .own 22 1 A1 l.length c1 (PA.map pqv) :: (MA ++ [])) 5 (.slice A8 k.st.length c8) k.st.length (stepsV k.st) := hba.mono (.cons _ (.cons _ (.cons _ (.refl _))))
              have hbr2 : Bor w.heap.size w (.own 38 5 A4 ((l.take i).flatMap Qt.st).length c4 (stepsV ((l.take i).flatMap Qt.st)) :: .own 22 1 A2 l.length c2 (PR.map pqv) :: .own 22 1 A1 l.length c1 (PA.map pqv) :: (MA ++ [])) 5 (.slice A9 k.st.length c9) k.st.length (stepsV k.st) := hbr.mono (List.nil_sublist _)
              refine vc_skip ?_
              refine then_next ?_
              refine vc_seq ?_
              refine vc_block ?_
              refine vc_seq ?_
              refine vc_seq ?_
              refine vq_region (by kernel_rfl) (by kernel_rfl) ?_
              refine vq_det (det_move rfl) rfl ?_
              refine vq_det (det_move rfl) rfl ?_
              refine vq_det (det_indexAddr (size := 1) Try.underlying31 (by kernel_rfl) rfl rfl rfl (by omega) (by first | (exact Bor.own (by repeat (first | exact List.Mem.head _ | apply List.Mem.tail))) | (repeat (first | assumption | apply Bor.cons)))) rfl ?_
              refine vq_det (det_load_row (by kernel_rfl) rfl (by first | (exact Bor.own (by repeat (first | exact List.Mem.head _ | apply List.Mem.tail))) | (repeat (first | assumption | apply Bor.cons))) (by omega) hga) rfl ?_
              refine vq_det (det_move rfl) rfl ?_
              refine vq_det (det_move rfl) rfl ?_
              refine vq_det (det_indexAddr (size := 1) Try.underlying31 (by kernel_rfl) rfl rfl rfl (by omega) (by first | (exact Bor.own (by repeat (first | exact List.Mem.head _ | apply List.Mem.tail))) | (repeat (first | assumption | apply Bor.cons)))) rfl ?_
              refine vq_det (det_load_row (by kernel_rfl) rfl (by first | (exact Bor.own (by repeat (first | exact List.Mem.head _ | apply List.Mem.tail))) | (repeat (first | assumption | apply Bor.cons))) (by omega) hgr) rfl ?_
              refine vq_call co12 rfl (qsame_t (l := k.st) (l2 := k.st) rfl hba2 hbr2 (show k.st.length ≤ 1000000000 by omega)) (by rintro _ _ ⟨rfl, rfl⟩; exact ⟨rfl, List.Sublist.refl _⟩) rfl ?_
              refine vq_det (det_not_t rfl) rfl ?_
              refine vq_det (det_move rfl) rfl ?_
              refine vq_guard_t rfl rfl ?_
              refine vq_det (det_move rfl) rfl ?_
              refine vq_guard_t rfl rfl ?_
              refine vq_det (det_move rfl) rfl ?_
              refine vq_guard_t rfl rfl ?_
              refine vq_det (det_indexAddr (size := 1) Try.underlying31 (by kernel_rfl) rfl rfl rfl (by omega) (by first | (exact Bor.own (by repeat (first | exact List.Mem.head _ | apply List.Mem.tail))) | (repeat (first | assumption | apply Bor.cons)))) rfl ?_
              refine vq_guard_t rfl rfl ?_
              refine vq_det (det_load_row (by kernel_rfl) rfl (by first | (exact Bor.own (by repeat (first | exact List.Mem.head _ | apply List.Mem.tail))) | (repeat (first | assumption | apply Bor.cons))) (by omega) hga) rfl ?_
              refine vq_guard_t rfl rfl ?_
              refine vq_call co16 rfl (hca _ _ _ hba2) (by rintro _ _ ⟨rfl, rfl⟩; exact ⟨rfl, List.Sublist.refl _⟩) rfl ?_
              refine vq_guard_t rfl rfl ?_
              refine vq_det (det_neq rfl rfl) rfl ?_
              refine vq_det (det_pick_f rfl rfl) rfl ?_
              refine vq_end [(0, _), (4, _), (6, _), (7, _), (8, _), (65, _)] ⟨rfl, rfl, rfl, rfl, rfl, rfl, trivial⟩ ?_
              refine then_next ?_
              refine vc_decideU rfl (fun h65 => ?_) (fun h65 => ?_)
              · skip
                exfalso; exact h65 rfl
              · skip
                refine vc_skip ?_
                refine then_next ?_
                refine vc_region ?_
                refine vl_det (det_move rfl) rfl ?_
                refine vl_det (det_move rfl) rfl ?_
                refine vl_det (det_move rfl) rfl ?_
                refine vl_det (det_indexAddr (size := 1) Try.underlying31 (by kernel_rfl) rfl rfl rfl (by omega) (by first | (exact Bor.own (by repeat (first | exact List.Mem.head _ | apply List.Mem.tail))) | (repeat (first | assumption | apply Bor.cons)))) rfl ?_
                refine vl_det (det_load_row (by kernel_rfl) rfl (by first | (exact Bor.own (by repeat (first | exact List.Mem.head _ | apply List.Mem.tail))) | (repeat (first | assumption | apply Bor.cons))) (by omega) hga) rfl ?_
                refine vl_eff (eff_app slT22 rfl (by repeat (first | exact .hd | apply Sel.tl)) rfl hba2 (steps_one _) (by omega) (by omega)) rfl ?_
                rintro _ _ ⟨A71, c71, rfl, rfl⟩
                refine vl_det (det_assign rfl) rfl ?_
                refine vl_end [(0, _), (4, _), (6, _), (7, _), (8, _)] ⟨rfl, rfl, rfl, rfl, rfl, trivial⟩ ?_
                refine in_normal ?_
                refine then_next ?_
                refine vc_region ?_
                refine vl_det (det_move rfl) rfl ?_
                refine vl_det (det_add rfl rfl (w_i64 (by omega) (by omega))) rfl ?_
                refine vl_det (det_assign rfl) rfl ?_
                refine vl_end [(0, _), (4, _), (6, _), (7, _), (8, _)] ⟨rfl, rfl, rfl, rfl, rfl, trivial⟩ ?_
                have hel : ((l.take i).flatMap Qt.st).length + k.st.length = ((l.take (i + 1)).flatMap Qt.st).length := by rw [htk, List.length_append]
                refine in_loop_ ⟨_, by omega, i + 1, A71, c71, by omega, rfl, ⟨(by first | rfl | exact int_to (by omega) | exact sl_to (by omega)), (by first | rfl | exact int_to (by omega) | exact sl_to (by omega)), (by first | rfl | exact int_to (by omega) | exact sl_to (by omega)), (by first | rfl | exact int_to (by omega) | exact sl_to (by omega)), (by first | rfl | exact int_to (by omega) | exact sl_to (by omega)), trivial⟩, wk_own hel (by rw [htk, steps_app]) (.refl _)⟩
            · skip
              obtain rfl : i = l.length := by omega
              rw [List.take_length]
              have hbo2 : Bor w.heap.size w (.own 38 5 A4 (l.flatMap Qt.st).length c4 (stepsV (l.flatMap Qt.st)) :: .own 22 1 A2 l.length c2 (PR.map pqv) :: .own 22 1 A1 l.length c1 (PA.map pqv) :: (MA ++ [])) 5 (.slice A0 q.length c0) q.length (stepsV q) := hbo.mono (List.nil_sublist _)
              refine vc_exit ?_
              refine then_exit ?_
              refine loop_exit ?_
              refine in_eq ?_
              refine then_next ?_
              refine vc_seq ?_
              refine vc_region ?_
              refine vl_det (det_move rfl) rfl ?_
              refine vl_det (det_move rfl) rfl ?_
              refine vl_det (det_move rfl) rfl ?_
              refine vl_det (det_len_sl Try.underlying22 rfl) rfl ?_
              refine vl_det (det_sub rfl rfl (w_i64 (by omega) (by omega))) rfl ?_
              refine vl_det (det_indexAddr (i := q.length - 1) (size := 5) Try.underlying22 (by kernel_rfl) rfl rfl (by omega) (by omega) hbo2) rfl ?_
              refine vl_det (det_load_rowa 5 (by kernel_rfl) rfl hbo2 (by omega) (StepC.cells ls) hcl rfl) rfl ?_
              refine vl_pushs slT22 rfl rfl rfl (by omega) (by first | exact bv_one _ | exact strs_one _ | exact ints_one _ _ | (simp; done) | (simp [Value.oneCell']; done) | assumption) rfl rfl rfl (fun _ => rfl) (by repeat (first | exact .hd | apply Sel.tl)) (by omega) (by omega) ?_
              intro _ A80 c80
              refine vl_det (det_move rfl) rfl ?_
              refine vl_call co12 rfl (qsame_n (q := q) (by omega) (by rw [hsp, steps_app, steps_sing]) (Bor.own (.head _)) (hbo.mono (List.nil_sublist _)) (by omega)) rfl ?_
              rintro _ _ ⟨rfl, hLL⟩
              obtain rfl := hLL.symm
              refine vl_det (det_assign rfl) rfl ?_
              refine vl_end [(2, _)] ⟨rfl, trivial⟩ ?_
              refine then_next ?_
              refine vc_ret ?_
              refine ret1 rfl rfl ?_
              rfl
        · skip
          exfalso; exact h35 rfl
  · have hpf := fun F A c hb => @pparts_bad w.heap.size w F A c q hb hq
    obtain ⟨e, he⟩ : ∃ e, e = checkQ q := ⟨_, rfl⟩
    rw [← he] at hck hpf hq
    refine fn_walk Try.func4 83 rfl rfl rfl [(0, .slice A0 q.length c0)] ⟨⟨rfl, rfl⟩, trivial⟩ ?_
    refine vc_seq ?_
    refine vc_region ?_
    refine vl_det (det_assign rfl) rfl ?_
    refine vl_end [(0, _)] ⟨rfl, trivial⟩ ?_
    refine then_next ?_
    refine vc_seq ?_
    refine vc_seq ?_
    refine vc_region ?_
    refine vl_call co9 rfl (alive_d) rfl ?_
    rintro _ _ ⟨rfl, hLL⟩
    obtain rfl := hLL.symm
    refine vl_det (det_not_t rfl) rfl ?_
    refine vl_end [(0, _), (10, _)] ⟨rfl, rfl, trivial⟩ ?_
    refine then_next ?_
    refine vc_cond_f rfl ?_
    refine vc_skip ?_
    refine then_next ?_
    refine vc_seq ?_
    refine vc_region ?_
    refine vl_det (det_move rfl) rfl ?_
    refine vl_call co10 rfl (hck _ _ _ (by first | (exact Bor.own (by repeat (first | exact List.Mem.head _ | apply List.Mem.tail))) | (repeat (first | assumption | apply Bor.cons)))) rfl ?_
    rintro _ _ ⟨rfl, hLL⟩
    obtain rfl := hLL.symm
    refine vl_det (det_assign rfl) rfl ?_
    refine vl_end [(0, _), (3, _)] ⟨rfl, rfl, trivial⟩ ?_
    refine then_next ?_
    refine vc_seq ?_
    refine vc_region ?_
    refine vl_det (det_move rfl) rfl ?_
    refine vl_call co14 rfl (hpf _ _ _ (by first | (exact Bor.own (by repeat (first | exact List.Mem.head _ | apply List.Mem.tail))) | (repeat (first | assumption | apply Bor.cons)))) rfl ?_
    rintro _ _ ⟨rfl, hLL⟩
    obtain rfl := hLL.symm
    refine vl_det (det_move rfl) rfl ?_
    refine vl_det (det_extract rfl rfl) rfl ?_
    refine vl_det (det_extract rfl rfl) rfl ?_
    refine vl_det (det_assign rfl) rfl ?_
    refine vl_det (det_assign rfl) rfl ?_
    refine vl_end [(0, _), (3, _), (4, _), (5, _)] ⟨rfl, rfl, rfl, rfl, trivial⟩ ?_
    refine then_next ?_
    refine vc_seq ?_
    refine vc_seq ?_
    refine vc_region ?_
    refine vl_det (det_move rfl) rfl ?_
    refine vl_det (det_neq rfl rfl) rfl ?_
    refine vl_end [(0, _), (3, _), (4, _), (5, _), (19, _)] ⟨rfl, rfl, rfl, rfl, rfl, trivial⟩ ?_
    refine then_next ?_
    refine vc_decideU rfl (fun h19 => ?_) (fun h19 => ?_)
    · skip
      refine vc_seq ?_
      refine vc_region ?_
      refine vl_det (det_move rfl) rfl ?_
      refine vl_det (det_move rfl) rfl ?_
      refine vl_det (det_eql rfl rfl) rfl ?_
      refine vl_det (det_move rfl) rfl ?_
      refine vl_guardp rfl rfl rfl (fun h23 => ?_) (fun h23 => ?_)
      · skip
        refine vl_det (det_move rfl) rfl ?_
        refine vl_guard_t rfl rfl ?_
        refine vl_det (det_len_sl Try.underlying31 rfl) rfl ?_
        refine vl_guard_t rfl rfl ?_
        refine vl_det (det_eql rfl rfl) rfl ?_
        refine vl_det (det_pick_t rfl rfl) rfl ?_
        refine vl_det (det_assign rfl) rfl ?_
        refine vl_end [(2, _)] ⟨rfl, trivial⟩ ?_
        refine then_next ?_
        refine vc_ret ?_
        refine then_ret ?_
        refine ret1 rfl rfl ?_
        rfl
      · skip
        exfalso; exact h23 rfl
    · skip
      exfalso; exact h19 hq
theorem own : ownKnob Try.prog.godebug = none := by kernel_rfl
theorem laidOut : laidOutB Try.prog = true := by kernel_rfl
set_option maxRecDepth 100000 in
theorem lifted (os : Os) (started : os.Started) (H : Type) (enc : TypeId × Value → H) :
    ReturnsInHanded {} Try.checked os 4 .any (Rows.planPartsSpec.pre6 enc Try.prog Try.f4 Rows.planPartsRow.domain false) (Rows.planPartsSpec.post enc Try.prog Try.f4 false true false false) := by
  refine returnsInHanded_of_change (C := Try.checked) own started (by kernel_rfl) Try.func4
    (ChangeSpec.witness6 (enc := enc) (C := Try.checked) false ⟨#[], #[.slice none 0 0], []⟩ 8 (by kernel_rfl) (by kernel_rfl) (by kernel_rfl) (by kernel_rfl)) ?_
  intro W base args ds gs before hval0 hW hcnd _
  have hval : ∀ (j : Nat) t v, Try.f4.params[j]? = some t → args[j]? = some v → Value.okWide Try.prog W .any base t v := hval0
  have hW' := hW
  obtain ⟨p, q, hA0, hV, rfl, hfz, hnd⟩ := hW
  have hA : DataW.TrodAll enc Try.prog W 0 (fun _ => true) true Try.f4.params.toList args.toList ds p := hA0
  rw [Try.params4] at hA hval
  obtain ⟨v0', vs0, d0, ds0, p0, q0, hargs, rfl, rfl, h0', r0⟩ := trodAll_cons hA
  obtain ⟨rfl, rfl, rfl⟩ := trodAll_nil r0
  obtain rfl : args = #[v0'] := by cases args; simp_all
  obtain ⟨rfl, rfl⟩ := trodVars_none hV
  have k0 := h0'
  have lt0 : ∀ x ∈ p0, x.block < W.heap.size := by obtain ⟨m, hm⟩ := k0; exact DataW.trod_lt m _ _ _ hm
  obtain ⟨A0, n0, c0, rfl⟩ := okWide_slice Try.underlying22 (hval 0 22 v0' rfl rfl)
  obtain ⟨⟨u0, L0⟩, e0, hr0, ho0, hm0⟩ := DecT.arg (dec_slice Try.underlying22 (by kernel_rfl : Try.prog.cellsOf 38 = 5) (by omega) (fun _ => rfl) (dec_step W)) k0
  obtain rfl := cells_slice A0 n0 c0 rfl e0
  clear hA0 hval0
  refine (walk W _ L0 hr0 ho0 hm0).mono fun e W' ⟨he, bel⟩ => ?_
  subst he
  exact ⟨_, rfl, _, _, _, [], _, [], hW', trodAll_mk1 (shut_bool Try.underlying4 _), (trodAll_cons_mk (Below.trod laidOut (by kernel_rfl) (of_decide_eq_true (by kernel_rfl)) k0 bel lt0) trodAll_mk0), rfl, bel.frame _, fun h => by cases h⟩

theorem over : Rows.planPartsRow.holds Try.pinned (OpenSpec.ofChange Rows.planPartsSpec) :=
  OpenClaim.holds_of_wide 4 Try.f4 rfl rfl rfl rfl rfl rfl rfl ⟨rfl, rfl, rfl, rfl, rfl⟩ rfl rfl rfl rfl rfl (by kernel_rfl) Try.func4 (by kernel_rfl)
    (of_decide_eq_true (by kernel_rfl)) (by unfold Func.isWrapper; first | (rw [if_pos (by decide +kernel)]; kernel_rfl) | (rw [if_neg (by decide +kernel)]; exact ⟨rfl, rfl⟩))
    (fun os started H enc _ => lifted os started H enc)

theorem proved : Rows.PlanPartsSaid := over
#print axioms proved
end Go.Proofs.Ytakokckokchacaa.lawPlanParts
